/- Part of the walk: lemmas and printed functions that the claim uses (wip/tools/trim.py). -/
import Derived.Test.YtdbjjaodkapikaaKTEx1
import Derived.Test.YtdbjjaodkapikaaKTEx9
namespace Go.Proofs.Ytdbjjaodkapikaa.TE
open Go.RowKit Go.Proofs.YtdbjjaodkapikaaW.PrintWords Go.Proofs.YtdbjjaodkapikaaW.PrintLast Go.Proofs.YtdbjjaodkapikaaW.PrintMore
attribute [local go_sem] max2_int min2_int max_two min_two max_three min_three max_four min_four
set_option linter.unusedVariables false
set_option linter.unusedSimpArgs false
mutual
def chiasmusref01_Compare.l0 : Nat → List (S42) → List (S42) → Int → Option (Int)
  | 0, _, _, _ => none
  | k + 1, x0, x1, x5 => if x5 < (x0.length : Int) then (chiasmusref01_Compare.j1 k x0 x1 x5 (decide (x5 < (x1.length : Int)))) else (chiasmusref01_Compare.j1 k x0 x1 x5 false)
def chiasmusref01_Compare.j1 : Nat → List (S42) → List (S42) → Int → Bool → Option (Int)
  | 0, _, _, _, _ => none
  | k + 1, x0, x1, x5, x17 => if x17 = true then (if 0 ≤ x5 then (if x5 < (x0.length : Int) then (if x5 < (x1.length : Int) then (if ((rd_T42 x0 x5).f0) = ((rd_T42 x1 x5).f0) then ((chiasmusref01_Sign.f ((rd_T42 x0 x5).f1) ((rd_T42 x1 x5).f1)).bind fun t252 => (if t252 = 0 then ((chiasmusref01_Compare.f k ((rd_T42 x0 x5).f2) ((rd_T42 x1 x5).f2)).bind fun t255 => (if t255 = 0 then (chiasmusref01_Compare.l0 k x0 x1 (wrap64 (x5 + 1))) else (some t255))) else (some t252))) else (if ((rd_T42 x0 x5).f0) < ((rd_T42 x1 x5).f0) then (some (-1)) else (some 1))) else (none)) else (none)) else (none)) else (if (x0.length : Int) < (x1.length : Int) then (some (-1)) else (if (x0.length : Int) > (x1.length : Int) then (some 1) else (some 0)))
def chiasmusref01_Compare.f : Nat → List (S42) → List (S42) → Option (Int)
  | 0, _, _ => none
  | k + 1, l0, l1 => chiasmusref01_Compare.l0 k l0 l1 0
end
def chiasmusref01_Compare.T4 : Bool × List (List Nat × List Nat) := (true, [([], []), ([], []), ([0, 1], [0, 1]), ([2], [2]), ([3], [3]), ([], []), ([], []), ([5, 6], [5, 6]), ([7], [7]), ([8], [8]), ([4, 9], [4, 9])])
def chiasmusref01_Compare.B4 : List Nat := [0, 0, 3, 7, 15, 0, 0, 96, 224, 480, 1023]
theorem chiasmusref01_Compare.tab4 : rtab .any (opsOf Try.f27 4) = chiasmusref01_Compare.T4 := by kernel_rfl
theorem chiasmusref01_Compare.bits4 : waitsOk chiasmusref01_Compare.T4.2 chiasmusref01_Compare.B4 = true := by kernel_rfl
def chiasmusref01_Compare.T5 : Bool × List (List Nat × List Nat) := (true, [([], []), ([], []), ([0, 1], [0, 1]), ([2], [2]), ([3], [3]), ([], []), ([], []), ([5, 6], [5, 6]), ([7], [7]), ([8], [8]), ([4, 9], [4, 9])])
def chiasmusref01_Compare.B5 : List Nat := [0, 0, 3, 7, 15, 0, 0, 96, 224, 480, 1023]
theorem chiasmusref01_Compare.tab5 : rtab .any (opsOf Try.f27 5) = chiasmusref01_Compare.T5 := by kernel_rfl
theorem chiasmusref01_Compare.bits5 : waitsOk chiasmusref01_Compare.T5.2 chiasmusref01_Compare.B5 = true := by kernel_rfl
def chiasmusref01_Compare.T8 : Bool × List (List Nat × List Nat) := (true, [([], []), ([], []), ([0, 1], [0, 1]), ([2], [2]), ([3], [3]), ([], []), ([], []), ([5, 6], [5, 6]), ([7], [7]), ([8], [8]), ([4, 9], [4, 9]), ([10, 10, 0, 1, 2, 3, 4, 5, 6, 7, 8, 9, 10], [10])])
def chiasmusref01_Compare.B8 : List Nat := [0, 0, 3, 7, 15, 0, 0, 96, 224, 480, 1023, 2047]
theorem chiasmusref01_Compare.tab8 : rtab .any (opsOf Try.f27 8) = chiasmusref01_Compare.T8 := by kernel_rfl
theorem chiasmusref01_Compare.bits8 : waitsOk chiasmusref01_Compare.T8.2 chiasmusref01_Compare.B8 = true := by kernel_rfl
def chiasmusref01_Compare.T11 : Bool × List (List Nat × List Nat) := (true, [([], []), ([], []), ([0, 1], [0, 1]), ([2], [2]), ([3], [3]), ([], []), ([], []), ([5, 6], [5, 6]), ([7], [7]), ([8], [8]), ([4, 9], [4, 9]), ([10, 10, 0, 1, 2, 3, 4, 5, 6, 7, 8, 9, 10], [10])])
def chiasmusref01_Compare.B11 : List Nat := [0, 0, 3, 7, 15, 0, 0, 96, 224, 480, 1023, 2047]
theorem chiasmusref01_Compare.tab11 : rtab .any (opsOf Try.f27 11) = chiasmusref01_Compare.T11 := by kernel_rfl
theorem chiasmusref01_Compare.bits11 : waitsOk chiasmusref01_Compare.T11.2 chiasmusref01_Compare.B11 = true := by kernel_rfl
set_option maxHeartbeats 8000000 in
set_option maxRecDepth 100000 in
theorem chiasmusref01_Compare.calls (k : Nat) : ∀ (A0 : Option Addr) (c0 : Nat) (l0 : List (S42)) (A1 : Option Addr) (c1 : Nat) (l1 : List (S42)) (r : Int) (w : World) (hr0 : Kd.C k42 w A0 l0.length l0) (hc0 : l0.length ≤ c0) (hr1 : Kd.C k42 w A1 l1.length l1) (hc1 : l1.length ≤ c1) (h : chiasmusref01_Compare.f k l0 l1 = some r),
    Calls Try.prog 27 #[.slice A0 l0.length c0, .slice A1 l1.length c1] w fun e w' => e = .returned (.int .i64 r) ∧ Below w.heap.size w w' := by
  induction k using Nat.strongRecOn with
  | _ k ih =>
  intro A0 c0 l0 A1 c1 l1 r w hr0 hc0 hr1 hc1 h
  cases k with
  | zero => exact absurd h (by simp [chiasmusref01_Compare.f])
  | succ k =>
  simp only [chiasmusref01_Compare.f] at h; have HR0 := Aside0.mk hr0; have HC0 := Aside0.mk hc0; clear hr0 hc0; have HR1 := Aside0.mk hr1; have HC1 := Aside0.mk hc1; clear hr1 hc1; have HB := Aside0.mk (Below.refl w.heap.size w); have H : (chiasmusref01_Compare.l0 k l0 l1 0) = some r := h; clear h; have H' := Aside0.mk H; clear H
  go_enter Try.func27, Try.ntmps27
  go_wp2
  go_loopg [5] k (fun kq v5 w' => ∃ (x5_1 : Int), v5 = .int .i64 x5_1 ∧ Aside0 (chiasmusref01_Compare.l0 kq l0 l1 x5_1 = some r) ∧ Aside0 (kq ≤ k) ∧ Aside0 (Below w.heap.size w w'))
  case atStart => exact ⟨(0), (by first | rfl | (simp; done) | (simp [*]; done)), H', ⟨Nat.le_refl _⟩, ⟨by repeat (first | (with_reducible first | exact HB.out | apply q11 | apply q5 | apply q10) | exact HB.out)⟩⟩
  case round =>
    clear H'
    try clear c1
    try clear c2
    try clear p2
    obtain ⟨x5_1, rfl, HA, HK1, HB⟩ := hrel
    cases gk with
    | zero => exact absurd HA.out (by simp [chiasmusref01_Compare.l0])
    | succ k1 =>
      have H := HA.out; clear HA; simp only [chiasmusref01_Compare.l0] at H; have HC3 := Aside0.mk H; clear H
      go_upto_region 2 with (fail)
      go_cut [17] (fun v17 wc => ∃ (kq : Nat) (x17_2 : Bool), v17 = .bool x17_2 ∧ Aside0 (chiasmusref01_Compare.j1 kq l0 l1 x5_1 x17_2 = some r) ∧ Aside0 (kq ≤ k1) ∧ Aside0 (Below w.heap.size w wc))
      case first =>
        have H := HC3.out; clear HC3
        by_cases c4 : x5_1 < (l0.length : Int)
        · rw [if_pos c4] at H; have c4b0 : decide (x5_1 < (l0.length : Int)) = true := decide_eq_true c4; clear c4
          (first | rw [c4b0] | (simp only [i64_w, i32_w]; rw [c4b0]) | skip)
          have H' := Aside0.mk H; clear H
          go_wp2
          go_meet
          case rel => exact ⟨_, (decide (x5_1 < (l1.length : Int))), (by first | rfl | (simp; done) | (simp [*]; done)), H', ⟨by have := HK1.out; first | omega | exact Nat.le_refl _⟩, ⟨by repeat (first | (with_reducible first | exact HB.out | apply q11 | apply q5 | apply q10) | exact HB.out)⟩⟩
        · rw [if_neg c4] at H; have c4b0 : decide (x5_1 < (l0.length : Int)) = false := decide_eq_false c4; clear c4
          (first | rw [c4b0] | (simp only [i64_w, i32_w]; rw [c4b0]) | skip)
          have H' := Aside0.mk H; clear H
          go_wp2
          go_meet
          case rel => exact ⟨_, (false), (by first | rfl | (simp; done) | (simp [*]; done)), H', ⟨by have := HK1.out; first | omega | exact Nat.le_refl _⟩, ⟨by repeat (first | (with_reducible first | exact HB.out | apply q11 | apply q5 | apply q10) | exact HB.out)⟩⟩
      case rest =>
        clear HC3
        try clear c1
        try clear c2
        try clear p2
        try clear c4
        try clear c4b0
        try clear p2
        obtain ⟨kq, x17_2, rfl, HA, HJ2, HB⟩ := hcut
        cases kq with
        | zero => exact absurd HA.out (by simp [chiasmusref01_Compare.j1])
        | succ kj2 =>
          have H := HA.out; clear HA; simp only [chiasmusref01_Compare.j1] at H
          by_cases c5 : x17_2 = true
          · subst c5
            have H1 : (if 0 ≤ x5_1 then (if x5_1 < (l0.length : Int) then (if x5_1 < (l1.length : Int) then (if ((rd_T42 l0 x5_1).f0) = ((rd_T42 l1 x5_1).f0) then ((chiasmusref01_Sign.f ((rd_T42 l0 x5_1).f1) ((rd_T42 l1 x5_1).f1)).bind fun t252 => (if t252 = 0 then ((chiasmusref01_Compare.f kj2 ((rd_T42 l0 x5_1).f2) ((rd_T42 l1 x5_1).f2)).bind fun t255 => (if t255 = 0 then (chiasmusref01_Compare.l0 kj2 l0 l1 (wrap64 (x5_1 + 1))) else (some t255))) else (some t252))) else (if ((rd_T42 l0 x5_1).f0) < ((rd_T42 l1 x5_1).f0) then (some (-1)) else (some 1))) else (none)) else (none)) else (none)) = some r := by rw [if_pos rfl] at H; exact H
            clear H; have H := H1; clear H1
            by_cases c6 : 0 ≤ x5_1
            · rw [if_pos c6] at H; have c6b0 : decide (0 ≤ x5_1) = true := decide_eq_true c6; clear c6
              by_cases c7 : x5_1 < (l0.length : Int)
              · rw [if_pos c7] at H; have c7b0 : decide (x5_1 < (l0.length : Int)) = true := decide_eq_true c7; clear c7
                by_cases c8 : x5_1 < (l1.length : Int)
                · rw [if_pos c8] at H; have c8b0 : decide (x5_1 < (l1.length : Int)) = true := decide_eq_true c8; clear c8
                  by_cases c9 : ((rd_T42 l0 x5_1).f0) = ((rd_T42 l1 x5_1).f0)
                  · rw [if_pos c9] at H; have c9b0 : (((rd_T42 l0 x5_1).f0) == ((rd_T42 l1 x5_1).f0)) = true := beq_iff_eq.mpr c9; have c9b1 : (((rd_T42 l0 x5_1).f0) != ((rd_T42 l1 x5_1).f0)) = false := bne_eq_false_iff_eq.mpr c9; clear c9; replace H := Option.bind_eq_some_iff.mp H; obtain ⟨t252, A100, H⟩ := H; replace H : (if t252 = 0 then ((chiasmusref01_Compare.f kj2 ((rd_T42 l0 x5_1).f2) ((rd_T42 l1 x5_1).f2)).bind fun t255 => (if t255 = 0 then (chiasmusref01_Compare.l0 kj2 l0 l1 (wrap64 (x5_1 + 1))) else (some t255))) else (some t252)) = some r := H; have A10 := Aside0.mk A100; clear A100
                    by_cases c11 : t252 = 0
                    · rw [if_pos c11] at H; have c11b0 : (t252 == 0) = true := beq_iff_eq.mpr c11; have c11b1 : (t252 != 0) = false := bne_eq_false_iff_eq.mpr c11; clear c11; replace H := Option.bind_eq_some_iff.mp H; obtain ⟨t255, A120, H⟩ := H; replace H : (if t255 = 0 then (chiasmusref01_Compare.l0 kj2 l0 l1 (wrap64 (x5_1 + 1))) else (some t255)) = some r := H; have A12 := Aside0.mk A120; clear A120
                      by_cases c13 : t255 = 0
                      · rw [if_pos c13] at H; have c13b0 : (t255 == 0) = true := beq_iff_eq.mpr c13; have c13b1 : (t255 != 0) = false := bne_eq_false_iff_eq.mpr c13; clear c13; have H' := Aside0.mk H; clear H
                        try go_wp2
                        have n0_ := Aside0.mk (q10 HB.out); clear HB; have HB := n0_; clear n0_; have p246 : 0 ≤ (x5_1 : Int) := of_decide_eq_true (by first | (with_reducible assumption) | assumption); have q246 : x5_1 < (l0.length : Int) := of_decide_eq_true (by first | (with_reducible assumption) | assumption); obtain ⟨ad246, A246_2, c246_2, e246, hx246_0, hx246_1, hx246_2, hl246_2, hi246_2⟩ := at_T42 HR0.out x5_1 p246 q246; have hw246_2 := hx246_2; have hw246_1 := hx246_1; have hw246_0 := hx246_0; cases e246; replace hx246_0 := (HB.out.cell (World.block_lt_of_cell? w _ hx246_0)).trans hx246_0; replace hx246_1 := (HB.out.cell (World.block_lt_of_cell? w _ hx246_1)).trans hx246_1; replace hx246_2 := (HB.out.cell (World.block_lt_of_cell? w _ hx246_2)).trans hx246_2; have HR246_2 := Aside0.mk hi246_2; have HC246_2 := Aside0.mk hl246_2; clear hi246_2 hl246_2; replace p246 := eq_true p246; replace q246 := eq_true q246; have p247 : 0 ≤ (x5_1 : Int) := of_decide_eq_true (by first | (with_reducible assumption) | assumption); have q247 : x5_1 < (l1.length : Int) := of_decide_eq_true (by first | (with_reducible assumption) | assumption); obtain ⟨ad247, A247_2, c247_2, e247, hx247_0, hx247_1, hx247_2, hl247_2, hi247_2⟩ := at_T42 HR1.out x5_1 p247 q247; have hw247_2 := hx247_2; have hw247_1 := hx247_1; have hw247_0 := hx247_0; cases e247; replace hx247_0 := (HB.out.cell (World.block_lt_of_cell? w _ hx247_0)).trans hx247_0; replace hx247_1 := (HB.out.cell (World.block_lt_of_cell? w _ hx247_1)).trans hx247_1; replace hx247_2 := (HB.out.cell (World.block_lt_of_cell? w _ hx247_2)).trans hx247_2; have HR247_2 := Aside0.mk hi247_2; have HC247_2 := Aside0.mk hl247_2; clear hi247_2 hl247_2; replace p247 := eq_true p247; replace q247 := eq_true q247; refine start_ (n := 11) (S := fun w' => w'.cell? (ad246.add ((x5_1).toNat * 3)) = some (.int .i64 ((rd_T42 l0 x5_1).f0)) ∧ w'.cell? ⟨(ad246.add ((x5_1).toNat * 3)).block, (ad246.add ((x5_1).toNat * 3)).off + 1, none⟩ = some (.string ((rd_T42 l0 x5_1).f1)) ∧ w'.cell? ⟨(ad246.add ((x5_1).toNat * 3)).block, (ad246.add ((x5_1).toNat * 3)).off + 2, none⟩ = some (.slice A246_2 ((rd_T42 l0 x5_1).f2).length c246_2) ∧ w'.cell? (ad247.add ((x5_1).toNat * 3)) = some (.int .i64 ((rd_T42 l1 x5_1).f0)) ∧ w'.cell? ⟨(ad247.add ((x5_1).toNat * 3)).block, (ad247.add ((x5_1).toNat * 3)).off + 1, none⟩ = some (.string ((rd_T42 l1 x5_1).f1)) ∧ w'.cell? ⟨(ad247.add ((x5_1).toNat * 3)).block, (ad247.add ((x5_1).toNat * 3)).off + 2, none⟩ = some (.slice A247_2 ((rd_T42 l1 x5_1).f2).length c247_2)) (ds := []) #[false, false, false, false, false, false, false, false, false, false, false] (by kernel_rfl) rfl rfl ⟨((HB.out.cell (World.block_lt_of_cell? w _ hw246_0)).trans hw246_0), ((HB.out.cell (World.block_lt_of_cell? w _ hw246_1)).trans hw246_1), ((HB.out.cell (World.block_lt_of_cell? w _ hw246_2)).trans hw246_2), ((HB.out.cell (World.block_lt_of_cell? w _ hw247_0)).trans hw247_0), ((HB.out.cell (World.block_lt_of_cell? w _ hw247_1)).trans hw247_1), ((HB.out.cell (World.block_lt_of_cell? w _ hw247_2)).trans hw247_2)⟩ (fun hHeld => ?_); refine q27 chiasmusref01_Compare.tab4 chiasmusref01_Compare.bits4 (fun HT_ HW_ => ?_)
                        generalize wc.drew = w14 at HB HR246_2 HR247_2 hx246_0 hx246_1 hx246_2 hx247_0 hx247_1 hx247_2 hHeld ⊢
                        refine pure_ (i := 0) (N := some 20) (v := ?_) (a' := ?_) #[true, false, false, false, false, false, false, false, false, false, false] rfl rfl (any_of HT_.out (by kernel_rfl)) (fun _ _ _ h => h) (Or.inl ⟨by rfl, ?_⟩) ?_ ?_; rotate_left
                        · intro w'; go_simp; with_reducible rfl
                        rotate_left
                        · simp only [Act.put, List.setIfInBounds_toArray, List.set_cons_zero, List.set_cons_succ, i64_w, i32_w]; rfl
                        refine pure_ (i := 1) (N := some 21) (v := ?_) (a' := ?_) #[true, true, false, false, false, false, false, false, false, false, false] rfl rfl (any_of HT_.out (by kernel_rfl)) (fun _ _ _ h => h) (Or.inl ⟨by rfl, ?_⟩) ?_ ?_; rotate_left
                        · intro w'; go_simp; with_reducible rfl
                        rotate_left
                        · simp only [Act.put, List.setIfInBounds_toArray, List.set_cons_zero, List.set_cons_succ, i64_w, i32_w]; rfl
                        refine pure_ (i := 2) (N := some 22) (v := ?_) (a' := ?_) #[true, true, true, false, false, false, false, false, false, false, false] rfl rfl (any_of HT_.out (by kernel_rfl)) (fun _ _ _ h => h) (Or.inl ⟨by rfl, ?_⟩) ?_ ?_; rotate_left
                        · intro w'; go_simp; with_reducible rfl
                        rotate_left
                        · simp only [Act.put, List.setIfInBounds_toArray, List.set_cons_zero, List.set_cons_succ, i64_w, i32_w]; rfl
                        refine pure_ (i := 3) (N := some 23) (v := ?_) (a' := ?_) #[true, true, true, true, false, false, false, false, false, false, false] rfl rfl (any_of HT_.out (by kernel_rfl)) (fun _ _ _ h => h) (Or.inl ⟨by rfl, ?_⟩) ?_ ?_; rotate_left
                        · intro w'; go_simp; with_reducible rfl
                        rotate_left
                        · simp only [Act.put, List.setIfInBounds_toArray, List.set_cons_zero, List.set_cons_succ, i64_w, i32_w]; rfl
                        refine pure_ (i := 5) (N := some 25) (v := ?_) (a' := ?_) #[true, true, true, true, false, true, false, false, false, false, false] rfl rfl (any_of HT_.out (by kernel_rfl)) (fun _ _ _ h => h) (Or.inl ⟨by rfl, ?_⟩) ?_ ?_; rotate_left
                        · intro w'; go_simp; with_reducible rfl
                        rotate_left
                        · simp only [Act.put, List.setIfInBounds_toArray, List.set_cons_zero, List.set_cons_succ, i64_w, i32_w]; rfl
                        refine pure_ (i := 6) (N := some 26) (v := ?_) (a' := ?_) #[true, true, true, true, false, true, true, false, false, false, false] rfl rfl (any_of HT_.out (by kernel_rfl)) (fun _ _ _ h => h) (Or.inl ⟨by rfl, ?_⟩) ?_ ?_; rotate_left
                        · intro w'; go_simp; with_reducible rfl
                        rotate_left
                        · simp only [Act.put, List.setIfInBounds_toArray, List.set_cons_zero, List.set_cons_succ, i64_w, i32_w]; rfl
                        refine pure_ (i := 7) (N := some 27) (v := ?_) (a' := ?_) #[true, true, true, true, false, true, true, true, false, false, false] rfl rfl (any_of HT_.out (by kernel_rfl)) (fun _ _ _ h => h) (Or.inl ⟨by rfl, ?_⟩) ?_ ?_; rotate_left
                        · intro w'; go_simp; with_reducible rfl
                        rotate_left
                        · simp only [Act.put, List.setIfInBounds_toArray, List.set_cons_zero, List.set_cons_succ, i64_w, i32_w]; rfl
                        refine pure_ (i := 8) (N := some 28) (v := ?_) (a' := ?_) #[true, true, true, true, false, true, true, true, true, false, false] rfl rfl (any_of HT_.out (by kernel_rfl)) (fun _ _ _ h => h) (Or.inl ⟨by rfl, ?_⟩) ?_ ?_; rotate_left
                        · intro w'; go_simp; with_reducible rfl
                        rotate_left
                        · simp only [Act.put, List.setIfInBounds_toArray, List.set_cons_zero, List.set_cons_succ, i64_w, i32_w]; rfl
                        refine take_ (i := 4) (N := some 24) (v := ?_) (a' := ?_) #[true, true, true, true, true, true, true, true, true, false, false] rfl rfl (q21 HT_.out HW_.out (by kernel_rfl)) (fun _ _ _ h => h) (Or.inl ⟨by rfl, ?_⟩) hHeld ?_ ?_; rotate_left
                        · rintro w' ⟨s0, s1, s2, s3, s4, s5⟩; go_simp; with_reducible rfl
                        rotate_left
                        · simp only [Act.put, List.setIfInBounds_toArray, List.set_cons_zero, List.set_cons_succ, i64_w, i32_w]; rfl
                        refine take_ (i := 9) (N := some 29) (v := ?_) (a' := ?_) #[true, true, true, true, true, true, true, true, true, true, false] rfl rfl (q21 HT_.out HW_.out (by kernel_rfl)) (fun _ _ _ h => h) (Or.inl ⟨by rfl, ?_⟩) hHeld ?_ ?_; rotate_left
                        · rintro w' ⟨s0, s1, s2, s3, s4, s5⟩; go_simp; with_reducible rfl
                        rotate_left
                        · simp only [Act.put, List.setIfInBounds_toArray, List.set_cons_zero, List.set_cons_succ, i64_w, i32_w]; rfl
                        refine pure_ (i := 10) (N := some 30) (v := ?_) (a' := ?_) #[true, true, true, true, true, true, true, true, true, true, true] rfl rfl (any_of HT_.out (by kernel_rfl)) (fun _ _ _ h => h) (Or.inl ⟨by rfl, ?_⟩) ?_ ?_; rotate_left
                        · intro w'; go_simp; with_reducible rfl
                        rotate_left
                        · simp only [Act.put, List.setIfInBounds_toArray, List.set_cons_zero, List.set_cons_succ, i64_w, i32_w]; rfl
                        refine done_ (q30 HT_.out (by kernel_rfl)) ?_
                        try go_wp2
                        have n0_ := Aside0.mk (q10 HB.out); clear HB; have HB := n0_; clear n0_; have p250 : 0 ≤ (x5_1 : Int) := of_decide_eq_true (by first | (with_reducible assumption) | assumption); have q250 : x5_1 < (l0.length : Int) := of_decide_eq_true (by first | (with_reducible assumption) | assumption); obtain ⟨ad250, A250_2, c250_2, e250, hx250_0, hx250_1, hx250_2, hl250_2, hi250_2⟩ := at_T42 HR0.out x5_1 p250 q250; have hw250_2 := hx250_2; have hw250_1 := hx250_1; have hw250_0 := hx250_0; obtain rfl : ad246 = ad250 := (by injection e250); replace hx250_0 := (HB.out.cell (World.block_lt_of_cell? w _ hx250_0)).trans hx250_0; replace hx250_1 := (HB.out.cell (World.block_lt_of_cell? w _ hx250_1)).trans hx250_1; replace hx250_2 := (HB.out.cell (World.block_lt_of_cell? w _ hx250_2)).trans hx250_2; have HR250_2 := Aside0.mk hi250_2; have HC250_2 := Aside0.mk hl250_2; clear hi250_2 hl250_2; replace p250 := eq_true p250; replace q250 := eq_true q250; have p251 : 0 ≤ (x5_1 : Int) := of_decide_eq_true (by first | (with_reducible assumption) | assumption); have q251 : x5_1 < (l1.length : Int) := of_decide_eq_true (by first | (with_reducible assumption) | assumption); obtain ⟨ad251, A251_2, c251_2, e251, hx251_0, hx251_1, hx251_2, hl251_2, hi251_2⟩ := at_T42 HR1.out x5_1 p251 q251; have hw251_2 := hx251_2; have hw251_1 := hx251_1; have hw251_0 := hx251_0; obtain rfl : ad247 = ad251 := (by injection e251); replace hx251_0 := (HB.out.cell (World.block_lt_of_cell? w _ hx251_0)).trans hx251_0; replace hx251_1 := (HB.out.cell (World.block_lt_of_cell? w _ hx251_1)).trans hx251_1; replace hx251_2 := (HB.out.cell (World.block_lt_of_cell? w _ hx251_2)).trans hx251_2; have HR251_2 := Aside0.mk hi251_2; have HC251_2 := Aside0.mk hl251_2; clear hi251_2 hl251_2; replace p251 := eq_true p251; replace q251 := eq_true q251; refine start_ (n := 12) (S := fun w' => w'.cell? (ad246.add ((x5_1).toNat * 3)) = some (.int .i64 ((rd_T42 l0 x5_1).f0)) ∧ w'.cell? ⟨(ad246.add ((x5_1).toNat * 3)).block, (ad246.add ((x5_1).toNat * 3)).off + 1, none⟩ = some (.string ((rd_T42 l0 x5_1).f1)) ∧ w'.cell? ⟨(ad246.add ((x5_1).toNat * 3)).block, (ad246.add ((x5_1).toNat * 3)).off + 2, none⟩ = some (.slice A250_2 ((rd_T42 l0 x5_1).f2).length c250_2) ∧ w'.cell? (ad247.add ((x5_1).toNat * 3)) = some (.int .i64 ((rd_T42 l1 x5_1).f0)) ∧ w'.cell? ⟨(ad247.add ((x5_1).toNat * 3)).block, (ad247.add ((x5_1).toNat * 3)).off + 1, none⟩ = some (.string ((rd_T42 l1 x5_1).f1)) ∧ w'.cell? ⟨(ad247.add ((x5_1).toNat * 3)).block, (ad247.add ((x5_1).toNat * 3)).off + 2, none⟩ = some (.slice A251_2 ((rd_T42 l1 x5_1).f2).length c251_2)) (ds := []) #[false, false, false, false, false, false, false, false, false, false, false, false] (by kernel_rfl) rfl rfl ⟨((HB.out.cell (World.block_lt_of_cell? w _ hw250_0)).trans hw250_0), ((HB.out.cell (World.block_lt_of_cell? w _ hw250_1)).trans hw250_1), ((HB.out.cell (World.block_lt_of_cell? w _ hw250_2)).trans hw250_2), ((HB.out.cell (World.block_lt_of_cell? w _ hw251_0)).trans hw251_0), ((HB.out.cell (World.block_lt_of_cell? w _ hw251_1)).trans hw251_1), ((HB.out.cell (World.block_lt_of_cell? w _ hw251_2)).trans hw251_2)⟩ (fun hHeld => ?_); refine q27 chiasmusref01_Compare.tab8 chiasmusref01_Compare.bits8 (fun HT_ HW_ => ?_)
                        generalize w14.drew = w15 at HB HR250_2 HR251_2 hx250_0 hx250_1 hx250_2 hx251_0 hx251_1 hx251_2 hHeld ⊢
                        refine pure_ (i := 0) (N := some 42) (v := ?_) (a' := ?_) #[true, false, false, false, false, false, false, false, false, false, false, false] rfl rfl (any_of HT_.out (by kernel_rfl)) (fun _ _ _ h => h) (Or.inl ⟨by rfl, ?_⟩) ?_ ?_; rotate_left
                        · intro w'; go_simp; with_reducible rfl
                        rotate_left
                        · simp only [Act.put, List.setIfInBounds_toArray, List.set_cons_zero, List.set_cons_succ, i64_w, i32_w]; rfl
                        refine pure_ (i := 1) (N := some 43) (v := ?_) (a' := ?_) #[true, true, false, false, false, false, false, false, false, false, false, false] rfl rfl (any_of HT_.out (by kernel_rfl)) (fun _ _ _ h => h) (Or.inl ⟨by rfl, ?_⟩) ?_ ?_; rotate_left
                        · intro w'; go_simp; with_reducible rfl
                        rotate_left
                        · simp only [Act.put, List.setIfInBounds_toArray, List.set_cons_zero, List.set_cons_succ, i64_w, i32_w]; rfl
                        refine pure_ (i := 2) (N := some 44) (v := ?_) (a' := ?_) #[true, true, true, false, false, false, false, false, false, false, false, false] rfl rfl (any_of HT_.out (by kernel_rfl)) (fun _ _ _ h => h) (Or.inl ⟨by rfl, ?_⟩) ?_ ?_; rotate_left
                        · intro w'; go_simp; with_reducible rfl
                        rotate_left
                        · simp only [Act.put, List.setIfInBounds_toArray, List.set_cons_zero, List.set_cons_succ, i64_w, i32_w]; rfl
                        refine pure_ (i := 3) (N := some 45) (v := ?_) (a' := ?_) #[true, true, true, true, false, false, false, false, false, false, false, false] rfl rfl (any_of HT_.out (by kernel_rfl)) (fun _ _ _ h => h) (Or.inl ⟨by rfl, ?_⟩) ?_ ?_; rotate_left
                        · intro w'; go_simp; with_reducible rfl
                        rotate_left
                        · simp only [Act.put, List.setIfInBounds_toArray, List.set_cons_zero, List.set_cons_succ, i64_w, i32_w]; rfl
                        refine pure_ (i := 5) (N := some 47) (v := ?_) (a' := ?_) #[true, true, true, true, false, true, false, false, false, false, false, false] rfl rfl (any_of HT_.out (by kernel_rfl)) (fun _ _ _ h => h) (Or.inl ⟨by rfl, ?_⟩) ?_ ?_; rotate_left
                        · intro w'; go_simp; with_reducible rfl
                        rotate_left
                        · simp only [Act.put, List.setIfInBounds_toArray, List.set_cons_zero, List.set_cons_succ, i64_w, i32_w]; rfl
                        refine pure_ (i := 6) (N := some 48) (v := ?_) (a' := ?_) #[true, true, true, true, false, true, true, false, false, false, false, false] rfl rfl (any_of HT_.out (by kernel_rfl)) (fun _ _ _ h => h) (Or.inl ⟨by rfl, ?_⟩) ?_ ?_; rotate_left
                        · intro w'; go_simp; with_reducible rfl
                        rotate_left
                        · simp only [Act.put, List.setIfInBounds_toArray, List.set_cons_zero, List.set_cons_succ, i64_w, i32_w]; rfl
                        refine pure_ (i := 7) (N := some 49) (v := ?_) (a' := ?_) #[true, true, true, true, false, true, true, true, false, false, false, false] rfl rfl (any_of HT_.out (by kernel_rfl)) (fun _ _ _ h => h) (Or.inl ⟨by rfl, ?_⟩) ?_ ?_; rotate_left
                        · intro w'; go_simp; with_reducible rfl
                        rotate_left
                        · simp only [Act.put, List.setIfInBounds_toArray, List.set_cons_zero, List.set_cons_succ, i64_w, i32_w]; rfl
                        refine pure_ (i := 8) (N := some 50) (v := ?_) (a' := ?_) #[true, true, true, true, false, true, true, true, true, false, false, false] rfl rfl (any_of HT_.out (by kernel_rfl)) (fun _ _ _ h => h) (Or.inl ⟨by rfl, ?_⟩) ?_ ?_; rotate_left
                        · intro w'; go_simp; with_reducible rfl
                        rotate_left
                        · simp only [Act.put, List.setIfInBounds_toArray, List.set_cons_zero, List.set_cons_succ, i64_w, i32_w]; rfl
                        refine take_ (i := 4) (N := some 46) (v := ?_) (a' := ?_) #[true, true, true, true, true, true, true, true, true, false, false, false] rfl rfl (q21 HT_.out HW_.out (by kernel_rfl)) (fun _ _ _ h => h) (Or.inl ⟨by rfl, ?_⟩) hHeld ?_ ?_; rotate_left
                        · rintro w' ⟨s0, s1, s2, s3, s4, s5⟩; go_simp; with_reducible rfl
                        rotate_left
                        · simp only [Act.put, List.setIfInBounds_toArray, List.set_cons_zero, List.set_cons_succ, i64_w, i32_w]; rfl
                        refine take_ (i := 9) (N := some 51) (v := ?_) (a' := ?_) #[true, true, true, true, true, true, true, true, true, true, false, false] rfl rfl (q21 HT_.out HW_.out (by kernel_rfl)) (fun _ _ _ h => h) (Or.inl ⟨by rfl, ?_⟩) hHeld ?_ ?_; rotate_left
                        · rintro w' ⟨s0, s1, s2, s3, s4, s5⟩; go_simp; with_reducible rfl
                        rotate_left
                        · simp only [Act.put, List.setIfInBounds_toArray, List.set_cons_zero, List.set_cons_succ, i64_w, i32_w]; rfl
                        refine one_ (i := 10) (N := some 52) #[true, true, true, true, true, true, true, true, true, true, true, false] rfl rfl (one_of HT_.out (by kernel_rfl)) (by decide) (fun K hK => ?_); refine goes_ Try.func70 (by kernel_rfl) rfl #[.string ((rd_T42 l0 x5_1).f1), .string ((rd_T42 l1 x5_1).f1)] (by rfl) rfl rfl (by (try simp only [List.map_toArray, List.map_cons, List.map_nil]); first | done | rfl | (simp only [List.length_drop, List.length_take]; rfl)) ?_; with_reducible refine (chiasmusref01_Sign.calls ((rd_T42 l0 x5_1).f1) ((rd_T42 l1 x5_1).f1) t252 _ A10.out).mono ?_
                        rintro e w' ⟨rfl, ⟨nd, rfl⟩⟩; refine ⟨_, rfl, ?_⟩; refine hK.out _ _ ⟨((HB.out.cell (World.block_lt_of_cell? w _ hw250_0)).trans hw250_0), ((HB.out.cell (World.block_lt_of_cell? w _ hw250_1)).trans hw250_1), ((HB.out.cell (World.block_lt_of_cell? w _ hw250_2)).trans hw250_2), ((HB.out.cell (World.block_lt_of_cell? w _ hw251_0)).trans hw251_0), ((HB.out.cell (World.block_lt_of_cell? w _ hw251_1)).trans hw251_1), ((HB.out.cell (World.block_lt_of_cell? w _ hw251_2)).trans hw251_2)⟩ (fun hHeld => ?_); clear hK K; refine norm_ (a' := ?_) ?_ ?_; rotate_left
                        · show Act.put _ (some 52) _ = _; simp only [Act.put, List.setIfInBounds_toArray, List.set_cons_zero, List.set_cons_succ, i64_w, i32_w]; rfl
                        refine pure_ (i := 11) (N := some 6) (v := ?_) (a' := ?_) #[true, true, true, true, true, true, true, true, true, true, true, true] rfl rfl (any_of HT_.out (by kernel_rfl)) (fun _ _ _ h => h) (Or.inl ⟨by rfl, ?_⟩) ?_ ?_; rotate_left
                        · intro w'; go_simp; with_reducible rfl
                        rotate_left
                        · simp only [Act.put, List.setIfInBounds_toArray, List.set_cons_zero, List.set_cons_succ, i64_w, i32_w]; rfl
                        refine done_ (q30 HT_.out (by kernel_rfl)) ?_
                        try go_wp2
                        (try (rw [drewN_self w15]; generalize hq_ : World.drewN w15 _ = w15; have n0_ : Aside0 (Below w.heap.size w w15) := ⟨by rw [← hq_]; exact (by repeat (first | (with_reducible first | exact HB.out | apply q11 | apply q5 | apply q10) | exact HB.out))⟩; clear HB hq_; have HB := n0_; clear n0_))
                        have n0_ := Aside0.mk (q10 HB.out); clear HB; have HB := n0_; clear n0_; have p253 : 0 ≤ (x5_1 : Int) := of_decide_eq_true (by first | (with_reducible assumption) | assumption); have q253 : x5_1 < (l0.length : Int) := of_decide_eq_true (by first | (with_reducible assumption) | assumption); obtain ⟨ad253, A253_2, c253_2, e253, hx253_0, hx253_1, hx253_2, hl253_2, hi253_2⟩ := at_T42 HR0.out x5_1 p253 q253; have hw253_2 := hx253_2; have hw253_1 := hx253_1; have hw253_0 := hx253_0; obtain rfl : ad246 = ad253 := (by injection e253); replace hx253_0 := (HB.out.cell (World.block_lt_of_cell? w _ hx253_0)).trans hx253_0; replace hx253_1 := (HB.out.cell (World.block_lt_of_cell? w _ hx253_1)).trans hx253_1; replace hx253_2 := (HB.out.cell (World.block_lt_of_cell? w _ hx253_2)).trans hx253_2; have HR253_2 := Aside0.mk hi253_2; have HC253_2 := Aside0.mk hl253_2; clear hi253_2 hl253_2; replace p253 := eq_true p253; replace q253 := eq_true q253; have p254 : 0 ≤ (x5_1 : Int) := of_decide_eq_true (by first | (with_reducible assumption) | assumption); have q254 : x5_1 < (l1.length : Int) := of_decide_eq_true (by first | (with_reducible assumption) | assumption); obtain ⟨ad254, A254_2, c254_2, e254, hx254_0, hx254_1, hx254_2, hl254_2, hi254_2⟩ := at_T42 HR1.out x5_1 p254 q254; have hw254_2 := hx254_2; have hw254_1 := hx254_1; have hw254_0 := hx254_0; obtain rfl : ad247 = ad254 := (by injection e254); replace hx254_0 := (HB.out.cell (World.block_lt_of_cell? w _ hx254_0)).trans hx254_0; replace hx254_1 := (HB.out.cell (World.block_lt_of_cell? w _ hx254_1)).trans hx254_1; replace hx254_2 := (HB.out.cell (World.block_lt_of_cell? w _ hx254_2)).trans hx254_2; have HR254_2 := Aside0.mk hi254_2; have HC254_2 := Aside0.mk hl254_2; clear hi254_2 hl254_2; replace p254 := eq_true p254; replace q254 := eq_true q254; refine start_ (n := 12) (S := fun w' => w'.cell? (ad246.add ((x5_1).toNat * 3)) = some (.int .i64 ((rd_T42 l0 x5_1).f0)) ∧ w'.cell? ⟨(ad246.add ((x5_1).toNat * 3)).block, (ad246.add ((x5_1).toNat * 3)).off + 1, none⟩ = some (.string ((rd_T42 l0 x5_1).f1)) ∧ w'.cell? ⟨(ad246.add ((x5_1).toNat * 3)).block, (ad246.add ((x5_1).toNat * 3)).off + 2, none⟩ = some (.slice A253_2 ((rd_T42 l0 x5_1).f2).length c253_2) ∧ w'.cell? (ad247.add ((x5_1).toNat * 3)) = some (.int .i64 ((rd_T42 l1 x5_1).f0)) ∧ w'.cell? ⟨(ad247.add ((x5_1).toNat * 3)).block, (ad247.add ((x5_1).toNat * 3)).off + 1, none⟩ = some (.string ((rd_T42 l1 x5_1).f1)) ∧ w'.cell? ⟨(ad247.add ((x5_1).toNat * 3)).block, (ad247.add ((x5_1).toNat * 3)).off + 2, none⟩ = some (.slice A254_2 ((rd_T42 l1 x5_1).f2).length c254_2)) (ds := []) #[false, false, false, false, false, false, false, false, false, false, false, false] (by kernel_rfl) rfl rfl ⟨((HB.out.cell (World.block_lt_of_cell? w _ hw253_0)).trans hw253_0), ((HB.out.cell (World.block_lt_of_cell? w _ hw253_1)).trans hw253_1), ((HB.out.cell (World.block_lt_of_cell? w _ hw253_2)).trans hw253_2), ((HB.out.cell (World.block_lt_of_cell? w _ hw254_0)).trans hw254_0), ((HB.out.cell (World.block_lt_of_cell? w _ hw254_1)).trans hw254_1), ((HB.out.cell (World.block_lt_of_cell? w _ hw254_2)).trans hw254_2)⟩ (fun hHeld => ?_); refine q27 chiasmusref01_Compare.tab11 chiasmusref01_Compare.bits11 (fun HT_ HW_ => ?_)
                        generalize w15.drew = w16 at HB HR253_2 HR254_2 hx253_0 hx253_1 hx253_2 hx254_0 hx254_1 hx254_2 hHeld ⊢
                        refine pure_ (i := 0) (N := some 56) (v := ?_) (a' := ?_) #[true, false, false, false, false, false, false, false, false, false, false, false] rfl rfl (any_of HT_.out (by kernel_rfl)) (fun _ _ _ h => h) (Or.inl ⟨by rfl, ?_⟩) ?_ ?_; rotate_left
                        · intro w'; go_simp; with_reducible rfl
                        rotate_left
                        · simp only [Act.put, List.setIfInBounds_toArray, List.set_cons_zero, List.set_cons_succ, i64_w, i32_w]; rfl
                        refine pure_ (i := 1) (N := some 57) (v := ?_) (a' := ?_) #[true, true, false, false, false, false, false, false, false, false, false, false] rfl rfl (any_of HT_.out (by kernel_rfl)) (fun _ _ _ h => h) (Or.inl ⟨by rfl, ?_⟩) ?_ ?_; rotate_left
                        · intro w'; go_simp; with_reducible rfl
                        rotate_left
                        · simp only [Act.put, List.setIfInBounds_toArray, List.set_cons_zero, List.set_cons_succ, i64_w, i32_w]; rfl
                        refine pure_ (i := 2) (N := some 58) (v := ?_) (a' := ?_) #[true, true, true, false, false, false, false, false, false, false, false, false] rfl rfl (any_of HT_.out (by kernel_rfl)) (fun _ _ _ h => h) (Or.inl ⟨by rfl, ?_⟩) ?_ ?_; rotate_left
                        · intro w'; go_simp; with_reducible rfl
                        rotate_left
                        · simp only [Act.put, List.setIfInBounds_toArray, List.set_cons_zero, List.set_cons_succ, i64_w, i32_w]; rfl
                        refine pure_ (i := 3) (N := some 59) (v := ?_) (a' := ?_) #[true, true, true, true, false, false, false, false, false, false, false, false] rfl rfl (any_of HT_.out (by kernel_rfl)) (fun _ _ _ h => h) (Or.inl ⟨by rfl, ?_⟩) ?_ ?_; rotate_left
                        · intro w'; go_simp; with_reducible rfl
                        rotate_left
                        · simp only [Act.put, List.setIfInBounds_toArray, List.set_cons_zero, List.set_cons_succ, i64_w, i32_w]; rfl
                        refine pure_ (i := 5) (N := some 61) (v := ?_) (a' := ?_) #[true, true, true, true, false, true, false, false, false, false, false, false] rfl rfl (any_of HT_.out (by kernel_rfl)) (fun _ _ _ h => h) (Or.inl ⟨by rfl, ?_⟩) ?_ ?_; rotate_left
                        · intro w'; go_simp; with_reducible rfl
                        rotate_left
                        · simp only [Act.put, List.setIfInBounds_toArray, List.set_cons_zero, List.set_cons_succ, i64_w, i32_w]; rfl
                        refine pure_ (i := 6) (N := some 62) (v := ?_) (a' := ?_) #[true, true, true, true, false, true, true, false, false, false, false, false] rfl rfl (any_of HT_.out (by kernel_rfl)) (fun _ _ _ h => h) (Or.inl ⟨by rfl, ?_⟩) ?_ ?_; rotate_left
                        · intro w'; go_simp; with_reducible rfl
                        rotate_left
                        · simp only [Act.put, List.setIfInBounds_toArray, List.set_cons_zero, List.set_cons_succ, i64_w, i32_w]; rfl
                        refine pure_ (i := 7) (N := some 63) (v := ?_) (a' := ?_) #[true, true, true, true, false, true, true, true, false, false, false, false] rfl rfl (any_of HT_.out (by kernel_rfl)) (fun _ _ _ h => h) (Or.inl ⟨by rfl, ?_⟩) ?_ ?_; rotate_left
                        · intro w'; go_simp; with_reducible rfl
                        rotate_left
                        · simp only [Act.put, List.setIfInBounds_toArray, List.set_cons_zero, List.set_cons_succ, i64_w, i32_w]; rfl
                        refine pure_ (i := 8) (N := some 64) (v := ?_) (a' := ?_) #[true, true, true, true, false, true, true, true, true, false, false, false] rfl rfl (any_of HT_.out (by kernel_rfl)) (fun _ _ _ h => h) (Or.inl ⟨by rfl, ?_⟩) ?_ ?_; rotate_left
                        · intro w'; go_simp; with_reducible rfl
                        rotate_left
                        · simp only [Act.put, List.setIfInBounds_toArray, List.set_cons_zero, List.set_cons_succ, i64_w, i32_w]; rfl
                        refine take_ (i := 4) (N := some 60) (v := ?_) (a' := ?_) #[true, true, true, true, true, true, true, true, true, false, false, false] rfl rfl (q21 HT_.out HW_.out (by kernel_rfl)) (fun _ _ _ h => h) (Or.inl ⟨by rfl, ?_⟩) hHeld ?_ ?_; rotate_left
                        · rintro w' ⟨s0, s1, s2, s3, s4, s5⟩; go_simp; with_reducible rfl
                        rotate_left
                        · simp only [Act.put, List.setIfInBounds_toArray, List.set_cons_zero, List.set_cons_succ, i64_w, i32_w]; rfl
                        refine take_ (i := 9) (N := some 65) (v := ?_) (a' := ?_) #[true, true, true, true, true, true, true, true, true, true, false, false] rfl rfl (q21 HT_.out HW_.out (by kernel_rfl)) (fun _ _ _ h => h) (Or.inl ⟨by rfl, ?_⟩) hHeld ?_ ?_; rotate_left
                        · rintro w' ⟨s0, s1, s2, s3, s4, s5⟩; go_simp; with_reducible rfl
                        rotate_left
                        · simp only [Act.put, List.setIfInBounds_toArray, List.set_cons_zero, List.set_cons_succ, i64_w, i32_w]; rfl
                        refine one_ (i := 10) (N := some 66) #[true, true, true, true, true, true, true, true, true, true, true, false] rfl rfl (one_of HT_.out (by kernel_rfl)) (by decide) (fun K hK => ?_); refine goes_ Try.func27 (by kernel_rfl) rfl #[.slice A253_2 ((rd_T42 l0 x5_1).f2).length c253_2, .slice A254_2 ((rd_T42 l1 x5_1).f2).length c254_2] (by rfl) rfl rfl (by (try simp only [List.map_toArray, List.map_cons, List.map_nil]); first | done | rfl | (simp only [List.length_drop, List.length_take]; rfl)) ?_; with_reducible refine (ih kj2 (by have := HK1.out; have := HJ2.out; omega) _ _ ((rd_T42 l0 x5_1).f2) _ _ ((rd_T42 l1 x5_1).f2) t255 _ ?side1 ?side2 ?side3 ?side4 A12.out).mono ?_
                        (case side1 => repeat (first | exact (Kd.C_below HR253_2.out HB.out) | (with_reducible refine Kd.C_alloc ?_ _) | (with_reducible refine Kd.C_drewN ?_ _) | (with_reducible refine Kd.C_drew ?_)))
                        (case side2 => exact HC253_2.out)
                        (case side3 => repeat (first | exact (Kd.C_below HR254_2.out HB.out) | (with_reducible refine Kd.C_alloc ?_ _) | (with_reducible refine Kd.C_drewN ?_ _) | (with_reducible refine Kd.C_drew ?_)))
                        (case side4 => exact HC254_2.out)
                        rintro e w17 ⟨rfl, hb⟩; refine ⟨_, rfl, ?_⟩; have n0_ := Aside0.mk (q14 (by repeat (first | (with_reducible first | exact HB.out | apply q11 | apply q5 | apply q10) | exact HB.out)) hb); clear HB; have HB := n0_; clear n0_; (try clear hb); (try clear hb2); (try clear hk); (try clear hi); refine hK.out _ _ ⟨((HB.out.cell (World.block_lt_of_cell? w _ hw253_0)).trans hw253_0), ((HB.out.cell (World.block_lt_of_cell? w _ hw253_1)).trans hw253_1), ((HB.out.cell (World.block_lt_of_cell? w _ hw253_2)).trans hw253_2), ((HB.out.cell (World.block_lt_of_cell? w _ hw254_0)).trans hw254_0), ((HB.out.cell (World.block_lt_of_cell? w _ hw254_1)).trans hw254_1), ((HB.out.cell (World.block_lt_of_cell? w _ hw254_2)).trans hw254_2)⟩ (fun hHeld => ?_); clear hK K; refine norm_ (a' := ?_) ?_ ?_; rotate_left
                        · show Act.put _ (some 66) _ = _; simp only [Act.put, List.setIfInBounds_toArray, List.set_cons_zero, List.set_cons_succ, i64_w, i32_w]; rfl
                        refine pure_ (i := 11) (N := some 7) (v := ?_) (a' := ?_) #[true, true, true, true, true, true, true, true, true, true, true, true] rfl rfl (any_of HT_.out (by kernel_rfl)) (fun _ _ _ h => h) (Or.inl ⟨by rfl, ?_⟩) ?_ ?_; rotate_left
                        · intro w'; go_simp; with_reducible rfl
                        rotate_left
                        · simp only [Act.put, List.setIfInBounds_toArray, List.set_cons_zero, List.set_cons_succ, i64_w, i32_w]; rfl
                        refine done_ (q30 HT_.out (by kernel_rfl)) ?_
                        try go_wp2
                        go_roundg kj2
                        case measure => have := HK1.out; have := HJ2.out; omega
                        case rel => exact ⟨(wrap64 (x5_1 + 1)), (by first | rfl | (simp; done) | (simp [*]; done)), H', ⟨by have := HK1.out; have := HJ2.out; omega⟩, ⟨by repeat (first | (with_reducible first | exact HB.out | apply q11 | apply q5 | apply q10) | exact HB.out)⟩⟩
                      · rw [if_neg c13] at H; have c13b0 : (t255 == 0) = false := beq_eq_false_iff_ne.mpr c13; have c13b1 : (t255 != 0) = true := bne_iff_ne.mpr c13; obtain rfl := Option.some.inj H
                        try go_wp2
                        have n0_ := Aside0.mk (q10 HB.out); clear HB; have HB := n0_; clear n0_; have p246 : 0 ≤ (x5_1 : Int) := of_decide_eq_true (by first | (with_reducible assumption) | assumption); have q246 : x5_1 < (l0.length : Int) := of_decide_eq_true (by first | (with_reducible assumption) | assumption); obtain ⟨ad246, A246_2, c246_2, e246, hx246_0, hx246_1, hx246_2, hl246_2, hi246_2⟩ := at_T42 HR0.out x5_1 p246 q246; have hw246_2 := hx246_2; have hw246_1 := hx246_1; have hw246_0 := hx246_0; cases e246; replace hx246_0 := (HB.out.cell (World.block_lt_of_cell? w _ hx246_0)).trans hx246_0; replace hx246_1 := (HB.out.cell (World.block_lt_of_cell? w _ hx246_1)).trans hx246_1; replace hx246_2 := (HB.out.cell (World.block_lt_of_cell? w _ hx246_2)).trans hx246_2; have HR246_2 := Aside0.mk hi246_2; have HC246_2 := Aside0.mk hl246_2; clear hi246_2 hl246_2; replace p246 := eq_true p246; replace q246 := eq_true q246; have p247 : 0 ≤ (x5_1 : Int) := of_decide_eq_true (by first | (with_reducible assumption) | assumption); have q247 : x5_1 < (l1.length : Int) := of_decide_eq_true (by first | (with_reducible assumption) | assumption); obtain ⟨ad247, A247_2, c247_2, e247, hx247_0, hx247_1, hx247_2, hl247_2, hi247_2⟩ := at_T42 HR1.out x5_1 p247 q247; have hw247_2 := hx247_2; have hw247_1 := hx247_1; have hw247_0 := hx247_0; cases e247; replace hx247_0 := (HB.out.cell (World.block_lt_of_cell? w _ hx247_0)).trans hx247_0; replace hx247_1 := (HB.out.cell (World.block_lt_of_cell? w _ hx247_1)).trans hx247_1; replace hx247_2 := (HB.out.cell (World.block_lt_of_cell? w _ hx247_2)).trans hx247_2; have HR247_2 := Aside0.mk hi247_2; have HC247_2 := Aside0.mk hl247_2; clear hi247_2 hl247_2; replace p247 := eq_true p247; replace q247 := eq_true q247; refine start_ (n := 11) (S := fun w' => w'.cell? (ad246.add ((x5_1).toNat * 3)) = some (.int .i64 ((rd_T42 l0 x5_1).f0)) ∧ w'.cell? ⟨(ad246.add ((x5_1).toNat * 3)).block, (ad246.add ((x5_1).toNat * 3)).off + 1, none⟩ = some (.string ((rd_T42 l0 x5_1).f1)) ∧ w'.cell? ⟨(ad246.add ((x5_1).toNat * 3)).block, (ad246.add ((x5_1).toNat * 3)).off + 2, none⟩ = some (.slice A246_2 ((rd_T42 l0 x5_1).f2).length c246_2) ∧ w'.cell? (ad247.add ((x5_1).toNat * 3)) = some (.int .i64 ((rd_T42 l1 x5_1).f0)) ∧ w'.cell? ⟨(ad247.add ((x5_1).toNat * 3)).block, (ad247.add ((x5_1).toNat * 3)).off + 1, none⟩ = some (.string ((rd_T42 l1 x5_1).f1)) ∧ w'.cell? ⟨(ad247.add ((x5_1).toNat * 3)).block, (ad247.add ((x5_1).toNat * 3)).off + 2, none⟩ = some (.slice A247_2 ((rd_T42 l1 x5_1).f2).length c247_2)) (ds := []) #[false, false, false, false, false, false, false, false, false, false, false] (by kernel_rfl) rfl rfl ⟨((HB.out.cell (World.block_lt_of_cell? w _ hw246_0)).trans hw246_0), ((HB.out.cell (World.block_lt_of_cell? w _ hw246_1)).trans hw246_1), ((HB.out.cell (World.block_lt_of_cell? w _ hw246_2)).trans hw246_2), ((HB.out.cell (World.block_lt_of_cell? w _ hw247_0)).trans hw247_0), ((HB.out.cell (World.block_lt_of_cell? w _ hw247_1)).trans hw247_1), ((HB.out.cell (World.block_lt_of_cell? w _ hw247_2)).trans hw247_2)⟩ (fun hHeld => ?_); refine q27 chiasmusref01_Compare.tab4 chiasmusref01_Compare.bits4 (fun HT_ HW_ => ?_)
                        generalize wc.drew = w18 at HB HR246_2 HR247_2 hx246_0 hx246_1 hx246_2 hx247_0 hx247_1 hx247_2 hHeld ⊢
                        refine pure_ (i := 0) (N := some 20) (v := ?_) (a' := ?_) #[true, false, false, false, false, false, false, false, false, false, false] rfl rfl (any_of HT_.out (by kernel_rfl)) (fun _ _ _ h => h) (Or.inl ⟨by rfl, ?_⟩) ?_ ?_; rotate_left
                        · intro w'; go_simp; with_reducible rfl
                        rotate_left
                        · simp only [Act.put, List.setIfInBounds_toArray, List.set_cons_zero, List.set_cons_succ, i64_w, i32_w]; rfl
                        refine pure_ (i := 1) (N := some 21) (v := ?_) (a' := ?_) #[true, true, false, false, false, false, false, false, false, false, false] rfl rfl (any_of HT_.out (by kernel_rfl)) (fun _ _ _ h => h) (Or.inl ⟨by rfl, ?_⟩) ?_ ?_; rotate_left
                        · intro w'; go_simp; with_reducible rfl
                        rotate_left
                        · simp only [Act.put, List.setIfInBounds_toArray, List.set_cons_zero, List.set_cons_succ, i64_w, i32_w]; rfl
                        refine pure_ (i := 2) (N := some 22) (v := ?_) (a' := ?_) #[true, true, true, false, false, false, false, false, false, false, false] rfl rfl (any_of HT_.out (by kernel_rfl)) (fun _ _ _ h => h) (Or.inl ⟨by rfl, ?_⟩) ?_ ?_; rotate_left
                        · intro w'; go_simp; with_reducible rfl
                        rotate_left
                        · simp only [Act.put, List.setIfInBounds_toArray, List.set_cons_zero, List.set_cons_succ, i64_w, i32_w]; rfl
                        refine pure_ (i := 3) (N := some 23) (v := ?_) (a' := ?_) #[true, true, true, true, false, false, false, false, false, false, false] rfl rfl (any_of HT_.out (by kernel_rfl)) (fun _ _ _ h => h) (Or.inl ⟨by rfl, ?_⟩) ?_ ?_; rotate_left
                        · intro w'; go_simp; with_reducible rfl
                        rotate_left
                        · simp only [Act.put, List.setIfInBounds_toArray, List.set_cons_zero, List.set_cons_succ, i64_w, i32_w]; rfl
                        refine pure_ (i := 5) (N := some 25) (v := ?_) (a' := ?_) #[true, true, true, true, false, true, false, false, false, false, false] rfl rfl (any_of HT_.out (by kernel_rfl)) (fun _ _ _ h => h) (Or.inl ⟨by rfl, ?_⟩) ?_ ?_; rotate_left
                        · intro w'; go_simp; with_reducible rfl
                        rotate_left
                        · simp only [Act.put, List.setIfInBounds_toArray, List.set_cons_zero, List.set_cons_succ, i64_w, i32_w]; rfl
                        refine pure_ (i := 6) (N := some 26) (v := ?_) (a' := ?_) #[true, true, true, true, false, true, true, false, false, false, false] rfl rfl (any_of HT_.out (by kernel_rfl)) (fun _ _ _ h => h) (Or.inl ⟨by rfl, ?_⟩) ?_ ?_; rotate_left
                        · intro w'; go_simp; with_reducible rfl
                        rotate_left
                        · simp only [Act.put, List.setIfInBounds_toArray, List.set_cons_zero, List.set_cons_succ, i64_w, i32_w]; rfl
                        refine pure_ (i := 7) (N := some 27) (v := ?_) (a' := ?_) #[true, true, true, true, false, true, true, true, false, false, false] rfl rfl (any_of HT_.out (by kernel_rfl)) (fun _ _ _ h => h) (Or.inl ⟨by rfl, ?_⟩) ?_ ?_; rotate_left
                        · intro w'; go_simp; with_reducible rfl
                        rotate_left
                        · simp only [Act.put, List.setIfInBounds_toArray, List.set_cons_zero, List.set_cons_succ, i64_w, i32_w]; rfl
                        refine pure_ (i := 8) (N := some 28) (v := ?_) (a' := ?_) #[true, true, true, true, false, true, true, true, true, false, false] rfl rfl (any_of HT_.out (by kernel_rfl)) (fun _ _ _ h => h) (Or.inl ⟨by rfl, ?_⟩) ?_ ?_; rotate_left
                        · intro w'; go_simp; with_reducible rfl
                        rotate_left
                        · simp only [Act.put, List.setIfInBounds_toArray, List.set_cons_zero, List.set_cons_succ, i64_w, i32_w]; rfl
                        refine take_ (i := 4) (N := some 24) (v := ?_) (a' := ?_) #[true, true, true, true, true, true, true, true, true, false, false] rfl rfl (q21 HT_.out HW_.out (by kernel_rfl)) (fun _ _ _ h => h) (Or.inl ⟨by rfl, ?_⟩) hHeld ?_ ?_; rotate_left
                        · rintro w' ⟨s0, s1, s2, s3, s4, s5⟩; go_simp; with_reducible rfl
                        rotate_left
                        · simp only [Act.put, List.setIfInBounds_toArray, List.set_cons_zero, List.set_cons_succ, i64_w, i32_w]; rfl
                        refine take_ (i := 9) (N := some 29) (v := ?_) (a' := ?_) #[true, true, true, true, true, true, true, true, true, true, false] rfl rfl (q21 HT_.out HW_.out (by kernel_rfl)) (fun _ _ _ h => h) (Or.inl ⟨by rfl, ?_⟩) hHeld ?_ ?_; rotate_left
                        · rintro w' ⟨s0, s1, s2, s3, s4, s5⟩; go_simp; with_reducible rfl
                        rotate_left
                        · simp only [Act.put, List.setIfInBounds_toArray, List.set_cons_zero, List.set_cons_succ, i64_w, i32_w]; rfl
                        refine pure_ (i := 10) (N := some 30) (v := ?_) (a' := ?_) #[true, true, true, true, true, true, true, true, true, true, true] rfl rfl (any_of HT_.out (by kernel_rfl)) (fun _ _ _ h => h) (Or.inl ⟨by rfl, ?_⟩) ?_ ?_; rotate_left
                        · intro w'; go_simp; with_reducible rfl
                        rotate_left
                        · simp only [Act.put, List.setIfInBounds_toArray, List.set_cons_zero, List.set_cons_succ, i64_w, i32_w]; rfl
                        refine done_ (q30 HT_.out (by kernel_rfl)) ?_
                        try go_wp2
                        have n0_ := Aside0.mk (q10 HB.out); clear HB; have HB := n0_; clear n0_; have p250 : 0 ≤ (x5_1 : Int) := of_decide_eq_true (by first | (with_reducible assumption) | assumption); have q250 : x5_1 < (l0.length : Int) := of_decide_eq_true (by first | (with_reducible assumption) | assumption); obtain ⟨ad250, A250_2, c250_2, e250, hx250_0, hx250_1, hx250_2, hl250_2, hi250_2⟩ := at_T42 HR0.out x5_1 p250 q250; have hw250_2 := hx250_2; have hw250_1 := hx250_1; have hw250_0 := hx250_0; obtain rfl : ad246 = ad250 := (by injection e250); replace hx250_0 := (HB.out.cell (World.block_lt_of_cell? w _ hx250_0)).trans hx250_0; replace hx250_1 := (HB.out.cell (World.block_lt_of_cell? w _ hx250_1)).trans hx250_1; replace hx250_2 := (HB.out.cell (World.block_lt_of_cell? w _ hx250_2)).trans hx250_2; have HR250_2 := Aside0.mk hi250_2; have HC250_2 := Aside0.mk hl250_2; clear hi250_2 hl250_2; replace p250 := eq_true p250; replace q250 := eq_true q250; have p251 : 0 ≤ (x5_1 : Int) := of_decide_eq_true (by first | (with_reducible assumption) | assumption); have q251 : x5_1 < (l1.length : Int) := of_decide_eq_true (by first | (with_reducible assumption) | assumption); obtain ⟨ad251, A251_2, c251_2, e251, hx251_0, hx251_1, hx251_2, hl251_2, hi251_2⟩ := at_T42 HR1.out x5_1 p251 q251; have hw251_2 := hx251_2; have hw251_1 := hx251_1; have hw251_0 := hx251_0; obtain rfl : ad247 = ad251 := (by injection e251); replace hx251_0 := (HB.out.cell (World.block_lt_of_cell? w _ hx251_0)).trans hx251_0; replace hx251_1 := (HB.out.cell (World.block_lt_of_cell? w _ hx251_1)).trans hx251_1; replace hx251_2 := (HB.out.cell (World.block_lt_of_cell? w _ hx251_2)).trans hx251_2; have HR251_2 := Aside0.mk hi251_2; have HC251_2 := Aside0.mk hl251_2; clear hi251_2 hl251_2; replace p251 := eq_true p251; replace q251 := eq_true q251; refine start_ (n := 12) (S := fun w' => w'.cell? (ad246.add ((x5_1).toNat * 3)) = some (.int .i64 ((rd_T42 l0 x5_1).f0)) ∧ w'.cell? ⟨(ad246.add ((x5_1).toNat * 3)).block, (ad246.add ((x5_1).toNat * 3)).off + 1, none⟩ = some (.string ((rd_T42 l0 x5_1).f1)) ∧ w'.cell? ⟨(ad246.add ((x5_1).toNat * 3)).block, (ad246.add ((x5_1).toNat * 3)).off + 2, none⟩ = some (.slice A250_2 ((rd_T42 l0 x5_1).f2).length c250_2) ∧ w'.cell? (ad247.add ((x5_1).toNat * 3)) = some (.int .i64 ((rd_T42 l1 x5_1).f0)) ∧ w'.cell? ⟨(ad247.add ((x5_1).toNat * 3)).block, (ad247.add ((x5_1).toNat * 3)).off + 1, none⟩ = some (.string ((rd_T42 l1 x5_1).f1)) ∧ w'.cell? ⟨(ad247.add ((x5_1).toNat * 3)).block, (ad247.add ((x5_1).toNat * 3)).off + 2, none⟩ = some (.slice A251_2 ((rd_T42 l1 x5_1).f2).length c251_2)) (ds := []) #[false, false, false, false, false, false, false, false, false, false, false, false] (by kernel_rfl) rfl rfl ⟨((HB.out.cell (World.block_lt_of_cell? w _ hw250_0)).trans hw250_0), ((HB.out.cell (World.block_lt_of_cell? w _ hw250_1)).trans hw250_1), ((HB.out.cell (World.block_lt_of_cell? w _ hw250_2)).trans hw250_2), ((HB.out.cell (World.block_lt_of_cell? w _ hw251_0)).trans hw251_0), ((HB.out.cell (World.block_lt_of_cell? w _ hw251_1)).trans hw251_1), ((HB.out.cell (World.block_lt_of_cell? w _ hw251_2)).trans hw251_2)⟩ (fun hHeld => ?_); refine q27 chiasmusref01_Compare.tab8 chiasmusref01_Compare.bits8 (fun HT_ HW_ => ?_)
                        generalize w18.drew = w19 at HB HR250_2 HR251_2 hx250_0 hx250_1 hx250_2 hx251_0 hx251_1 hx251_2 hHeld ⊢
                        refine pure_ (i := 0) (N := some 42) (v := ?_) (a' := ?_) #[true, false, false, false, false, false, false, false, false, false, false, false] rfl rfl (any_of HT_.out (by kernel_rfl)) (fun _ _ _ h => h) (Or.inl ⟨by rfl, ?_⟩) ?_ ?_; rotate_left
                        · intro w'; go_simp; with_reducible rfl
                        rotate_left
                        · simp only [Act.put, List.setIfInBounds_toArray, List.set_cons_zero, List.set_cons_succ, i64_w, i32_w]; rfl
                        refine pure_ (i := 1) (N := some 43) (v := ?_) (a' := ?_) #[true, true, false, false, false, false, false, false, false, false, false, false] rfl rfl (any_of HT_.out (by kernel_rfl)) (fun _ _ _ h => h) (Or.inl ⟨by rfl, ?_⟩) ?_ ?_; rotate_left
                        · intro w'; go_simp; with_reducible rfl
                        rotate_left
                        · simp only [Act.put, List.setIfInBounds_toArray, List.set_cons_zero, List.set_cons_succ, i64_w, i32_w]; rfl
                        refine pure_ (i := 2) (N := some 44) (v := ?_) (a' := ?_) #[true, true, true, false, false, false, false, false, false, false, false, false] rfl rfl (any_of HT_.out (by kernel_rfl)) (fun _ _ _ h => h) (Or.inl ⟨by rfl, ?_⟩) ?_ ?_; rotate_left
                        · intro w'; go_simp; with_reducible rfl
                        rotate_left
                        · simp only [Act.put, List.setIfInBounds_toArray, List.set_cons_zero, List.set_cons_succ, i64_w, i32_w]; rfl
                        refine pure_ (i := 3) (N := some 45) (v := ?_) (a' := ?_) #[true, true, true, true, false, false, false, false, false, false, false, false] rfl rfl (any_of HT_.out (by kernel_rfl)) (fun _ _ _ h => h) (Or.inl ⟨by rfl, ?_⟩) ?_ ?_; rotate_left
                        · intro w'; go_simp; with_reducible rfl
                        rotate_left
                        · simp only [Act.put, List.setIfInBounds_toArray, List.set_cons_zero, List.set_cons_succ, i64_w, i32_w]; rfl
                        refine pure_ (i := 5) (N := some 47) (v := ?_) (a' := ?_) #[true, true, true, true, false, true, false, false, false, false, false, false] rfl rfl (any_of HT_.out (by kernel_rfl)) (fun _ _ _ h => h) (Or.inl ⟨by rfl, ?_⟩) ?_ ?_; rotate_left
                        · intro w'; go_simp; with_reducible rfl
                        rotate_left
                        · simp only [Act.put, List.setIfInBounds_toArray, List.set_cons_zero, List.set_cons_succ, i64_w, i32_w]; rfl
                        refine pure_ (i := 6) (N := some 48) (v := ?_) (a' := ?_) #[true, true, true, true, false, true, true, false, false, false, false, false] rfl rfl (any_of HT_.out (by kernel_rfl)) (fun _ _ _ h => h) (Or.inl ⟨by rfl, ?_⟩) ?_ ?_; rotate_left
                        · intro w'; go_simp; with_reducible rfl
                        rotate_left
                        · simp only [Act.put, List.setIfInBounds_toArray, List.set_cons_zero, List.set_cons_succ, i64_w, i32_w]; rfl
                        refine pure_ (i := 7) (N := some 49) (v := ?_) (a' := ?_) #[true, true, true, true, false, true, true, true, false, false, false, false] rfl rfl (any_of HT_.out (by kernel_rfl)) (fun _ _ _ h => h) (Or.inl ⟨by rfl, ?_⟩) ?_ ?_; rotate_left
                        · intro w'; go_simp; with_reducible rfl
                        rotate_left
                        · simp only [Act.put, List.setIfInBounds_toArray, List.set_cons_zero, List.set_cons_succ, i64_w, i32_w]; rfl
                        refine pure_ (i := 8) (N := some 50) (v := ?_) (a' := ?_) #[true, true, true, true, false, true, true, true, true, false, false, false] rfl rfl (any_of HT_.out (by kernel_rfl)) (fun _ _ _ h => h) (Or.inl ⟨by rfl, ?_⟩) ?_ ?_; rotate_left
                        · intro w'; go_simp; with_reducible rfl
                        rotate_left
                        · simp only [Act.put, List.setIfInBounds_toArray, List.set_cons_zero, List.set_cons_succ, i64_w, i32_w]; rfl
                        refine take_ (i := 4) (N := some 46) (v := ?_) (a' := ?_) #[true, true, true, true, true, true, true, true, true, false, false, false] rfl rfl (q21 HT_.out HW_.out (by kernel_rfl)) (fun _ _ _ h => h) (Or.inl ⟨by rfl, ?_⟩) hHeld ?_ ?_; rotate_left
                        · rintro w' ⟨s0, s1, s2, s3, s4, s5⟩; go_simp; with_reducible rfl
                        rotate_left
                        · simp only [Act.put, List.setIfInBounds_toArray, List.set_cons_zero, List.set_cons_succ, i64_w, i32_w]; rfl
                        refine take_ (i := 9) (N := some 51) (v := ?_) (a' := ?_) #[true, true, true, true, true, true, true, true, true, true, false, false] rfl rfl (q21 HT_.out HW_.out (by kernel_rfl)) (fun _ _ _ h => h) (Or.inl ⟨by rfl, ?_⟩) hHeld ?_ ?_; rotate_left
                        · rintro w' ⟨s0, s1, s2, s3, s4, s5⟩; go_simp; with_reducible rfl
                        rotate_left
                        · simp only [Act.put, List.setIfInBounds_toArray, List.set_cons_zero, List.set_cons_succ, i64_w, i32_w]; rfl
                        refine one_ (i := 10) (N := some 52) #[true, true, true, true, true, true, true, true, true, true, true, false] rfl rfl (one_of HT_.out (by kernel_rfl)) (by decide) (fun K hK => ?_); refine goes_ Try.func70 (by kernel_rfl) rfl #[.string ((rd_T42 l0 x5_1).f1), .string ((rd_T42 l1 x5_1).f1)] (by rfl) rfl rfl (by (try simp only [List.map_toArray, List.map_cons, List.map_nil]); first | done | rfl | (simp only [List.length_drop, List.length_take]; rfl)) ?_; with_reducible refine (chiasmusref01_Sign.calls ((rd_T42 l0 x5_1).f1) ((rd_T42 l1 x5_1).f1) t252 _ A10.out).mono ?_
                        rintro e w' ⟨rfl, ⟨nd, rfl⟩⟩; refine ⟨_, rfl, ?_⟩; refine hK.out _ _ ⟨((HB.out.cell (World.block_lt_of_cell? w _ hw250_0)).trans hw250_0), ((HB.out.cell (World.block_lt_of_cell? w _ hw250_1)).trans hw250_1), ((HB.out.cell (World.block_lt_of_cell? w _ hw250_2)).trans hw250_2), ((HB.out.cell (World.block_lt_of_cell? w _ hw251_0)).trans hw251_0), ((HB.out.cell (World.block_lt_of_cell? w _ hw251_1)).trans hw251_1), ((HB.out.cell (World.block_lt_of_cell? w _ hw251_2)).trans hw251_2)⟩ (fun hHeld => ?_); clear hK K; refine norm_ (a' := ?_) ?_ ?_; rotate_left
                        · show Act.put _ (some 52) _ = _; simp only [Act.put, List.setIfInBounds_toArray, List.set_cons_zero, List.set_cons_succ, i64_w, i32_w]; rfl
                        refine pure_ (i := 11) (N := some 6) (v := ?_) (a' := ?_) #[true, true, true, true, true, true, true, true, true, true, true, true] rfl rfl (any_of HT_.out (by kernel_rfl)) (fun _ _ _ h => h) (Or.inl ⟨by rfl, ?_⟩) ?_ ?_; rotate_left
                        · intro w'; go_simp; with_reducible rfl
                        rotate_left
                        · simp only [Act.put, List.setIfInBounds_toArray, List.set_cons_zero, List.set_cons_succ, i64_w, i32_w]; rfl
                        refine done_ (q30 HT_.out (by kernel_rfl)) ?_
                        try go_wp2
                        (try (rw [drewN_self w19]; generalize hq_ : World.drewN w19 _ = w19; have n0_ : Aside0 (Below w.heap.size w w19) := ⟨by rw [← hq_]; exact (by repeat (first | (with_reducible first | exact HB.out | apply q11 | apply q5 | apply q10) | exact HB.out))⟩; clear HB hq_; have HB := n0_; clear n0_))
                        have n0_ := Aside0.mk (q10 HB.out); clear HB; have HB := n0_; clear n0_; have p253 : 0 ≤ (x5_1 : Int) := of_decide_eq_true (by first | (with_reducible assumption) | assumption); have q253 : x5_1 < (l0.length : Int) := of_decide_eq_true (by first | (with_reducible assumption) | assumption); obtain ⟨ad253, A253_2, c253_2, e253, hx253_0, hx253_1, hx253_2, hl253_2, hi253_2⟩ := at_T42 HR0.out x5_1 p253 q253; have hw253_2 := hx253_2; have hw253_1 := hx253_1; have hw253_0 := hx253_0; obtain rfl : ad246 = ad253 := (by injection e253); replace hx253_0 := (HB.out.cell (World.block_lt_of_cell? w _ hx253_0)).trans hx253_0; replace hx253_1 := (HB.out.cell (World.block_lt_of_cell? w _ hx253_1)).trans hx253_1; replace hx253_2 := (HB.out.cell (World.block_lt_of_cell? w _ hx253_2)).trans hx253_2; have HR253_2 := Aside0.mk hi253_2; have HC253_2 := Aside0.mk hl253_2; clear hi253_2 hl253_2; replace p253 := eq_true p253; replace q253 := eq_true q253; have p254 : 0 ≤ (x5_1 : Int) := of_decide_eq_true (by first | (with_reducible assumption) | assumption); have q254 : x5_1 < (l1.length : Int) := of_decide_eq_true (by first | (with_reducible assumption) | assumption); obtain ⟨ad254, A254_2, c254_2, e254, hx254_0, hx254_1, hx254_2, hl254_2, hi254_2⟩ := at_T42 HR1.out x5_1 p254 q254; have hw254_2 := hx254_2; have hw254_1 := hx254_1; have hw254_0 := hx254_0; obtain rfl : ad247 = ad254 := (by injection e254); replace hx254_0 := (HB.out.cell (World.block_lt_of_cell? w _ hx254_0)).trans hx254_0; replace hx254_1 := (HB.out.cell (World.block_lt_of_cell? w _ hx254_1)).trans hx254_1; replace hx254_2 := (HB.out.cell (World.block_lt_of_cell? w _ hx254_2)).trans hx254_2; have HR254_2 := Aside0.mk hi254_2; have HC254_2 := Aside0.mk hl254_2; clear hi254_2 hl254_2; replace p254 := eq_true p254; replace q254 := eq_true q254; refine start_ (n := 12) (S := fun w' => w'.cell? (ad246.add ((x5_1).toNat * 3)) = some (.int .i64 ((rd_T42 l0 x5_1).f0)) ∧ w'.cell? ⟨(ad246.add ((x5_1).toNat * 3)).block, (ad246.add ((x5_1).toNat * 3)).off + 1, none⟩ = some (.string ((rd_T42 l0 x5_1).f1)) ∧ w'.cell? ⟨(ad246.add ((x5_1).toNat * 3)).block, (ad246.add ((x5_1).toNat * 3)).off + 2, none⟩ = some (.slice A253_2 ((rd_T42 l0 x5_1).f2).length c253_2) ∧ w'.cell? (ad247.add ((x5_1).toNat * 3)) = some (.int .i64 ((rd_T42 l1 x5_1).f0)) ∧ w'.cell? ⟨(ad247.add ((x5_1).toNat * 3)).block, (ad247.add ((x5_1).toNat * 3)).off + 1, none⟩ = some (.string ((rd_T42 l1 x5_1).f1)) ∧ w'.cell? ⟨(ad247.add ((x5_1).toNat * 3)).block, (ad247.add ((x5_1).toNat * 3)).off + 2, none⟩ = some (.slice A254_2 ((rd_T42 l1 x5_1).f2).length c254_2)) (ds := []) #[false, false, false, false, false, false, false, false, false, false, false, false] (by kernel_rfl) rfl rfl ⟨((HB.out.cell (World.block_lt_of_cell? w _ hw253_0)).trans hw253_0), ((HB.out.cell (World.block_lt_of_cell? w _ hw253_1)).trans hw253_1), ((HB.out.cell (World.block_lt_of_cell? w _ hw253_2)).trans hw253_2), ((HB.out.cell (World.block_lt_of_cell? w _ hw254_0)).trans hw254_0), ((HB.out.cell (World.block_lt_of_cell? w _ hw254_1)).trans hw254_1), ((HB.out.cell (World.block_lt_of_cell? w _ hw254_2)).trans hw254_2)⟩ (fun hHeld => ?_); refine q27 chiasmusref01_Compare.tab11 chiasmusref01_Compare.bits11 (fun HT_ HW_ => ?_)
                        generalize w19.drew = w20 at HB HR253_2 HR254_2 hx253_0 hx253_1 hx253_2 hx254_0 hx254_1 hx254_2 hHeld ⊢
                        refine pure_ (i := 0) (N := some 56) (v := ?_) (a' := ?_) #[true, false, false, false, false, false, false, false, false, false, false, false] rfl rfl (any_of HT_.out (by kernel_rfl)) (fun _ _ _ h => h) (Or.inl ⟨by rfl, ?_⟩) ?_ ?_; rotate_left
                        · intro w'; go_simp; with_reducible rfl
                        rotate_left
                        · simp only [Act.put, List.setIfInBounds_toArray, List.set_cons_zero, List.set_cons_succ, i64_w, i32_w]; rfl
                        refine pure_ (i := 1) (N := some 57) (v := ?_) (a' := ?_) #[true, true, false, false, false, false, false, false, false, false, false, false] rfl rfl (any_of HT_.out (by kernel_rfl)) (fun _ _ _ h => h) (Or.inl ⟨by rfl, ?_⟩) ?_ ?_; rotate_left
                        · intro w'; go_simp; with_reducible rfl
                        rotate_left
                        · simp only [Act.put, List.setIfInBounds_toArray, List.set_cons_zero, List.set_cons_succ, i64_w, i32_w]; rfl
                        refine pure_ (i := 2) (N := some 58) (v := ?_) (a' := ?_) #[true, true, true, false, false, false, false, false, false, false, false, false] rfl rfl (any_of HT_.out (by kernel_rfl)) (fun _ _ _ h => h) (Or.inl ⟨by rfl, ?_⟩) ?_ ?_; rotate_left
                        · intro w'; go_simp; with_reducible rfl
                        rotate_left
                        · simp only [Act.put, List.setIfInBounds_toArray, List.set_cons_zero, List.set_cons_succ, i64_w, i32_w]; rfl
                        refine pure_ (i := 3) (N := some 59) (v := ?_) (a' := ?_) #[true, true, true, true, false, false, false, false, false, false, false, false] rfl rfl (any_of HT_.out (by kernel_rfl)) (fun _ _ _ h => h) (Or.inl ⟨by rfl, ?_⟩) ?_ ?_; rotate_left
                        · intro w'; go_simp; with_reducible rfl
                        rotate_left
                        · simp only [Act.put, List.setIfInBounds_toArray, List.set_cons_zero, List.set_cons_succ, i64_w, i32_w]; rfl
                        refine pure_ (i := 5) (N := some 61) (v := ?_) (a' := ?_) #[true, true, true, true, false, true, false, false, false, false, false, false] rfl rfl (any_of HT_.out (by kernel_rfl)) (fun _ _ _ h => h) (Or.inl ⟨by rfl, ?_⟩) ?_ ?_; rotate_left
                        · intro w'; go_simp; with_reducible rfl
                        rotate_left
                        · simp only [Act.put, List.setIfInBounds_toArray, List.set_cons_zero, List.set_cons_succ, i64_w, i32_w]; rfl
                        refine pure_ (i := 6) (N := some 62) (v := ?_) (a' := ?_) #[true, true, true, true, false, true, true, false, false, false, false, false] rfl rfl (any_of HT_.out (by kernel_rfl)) (fun _ _ _ h => h) (Or.inl ⟨by rfl, ?_⟩) ?_ ?_; rotate_left
                        · intro w'; go_simp; with_reducible rfl
                        rotate_left
                        · simp only [Act.put, List.setIfInBounds_toArray, List.set_cons_zero, List.set_cons_succ, i64_w, i32_w]; rfl
                        refine pure_ (i := 7) (N := some 63) (v := ?_) (a' := ?_) #[true, true, true, true, false, true, true, true, false, false, false, false] rfl rfl (any_of HT_.out (by kernel_rfl)) (fun _ _ _ h => h) (Or.inl ⟨by rfl, ?_⟩) ?_ ?_; rotate_left
                        · intro w'; go_simp; with_reducible rfl
                        rotate_left
                        · simp only [Act.put, List.setIfInBounds_toArray, List.set_cons_zero, List.set_cons_succ, i64_w, i32_w]; rfl
                        refine pure_ (i := 8) (N := some 64) (v := ?_) (a' := ?_) #[true, true, true, true, false, true, true, true, true, false, false, false] rfl rfl (any_of HT_.out (by kernel_rfl)) (fun _ _ _ h => h) (Or.inl ⟨by rfl, ?_⟩) ?_ ?_; rotate_left
                        · intro w'; go_simp; with_reducible rfl
                        rotate_left
                        · simp only [Act.put, List.setIfInBounds_toArray, List.set_cons_zero, List.set_cons_succ, i64_w, i32_w]; rfl
                        refine take_ (i := 4) (N := some 60) (v := ?_) (a' := ?_) #[true, true, true, true, true, true, true, true, true, false, false, false] rfl rfl (q21 HT_.out HW_.out (by kernel_rfl)) (fun _ _ _ h => h) (Or.inl ⟨by rfl, ?_⟩) hHeld ?_ ?_; rotate_left
                        · rintro w' ⟨s0, s1, s2, s3, s4, s5⟩; go_simp; with_reducible rfl
                        rotate_left
                        · simp only [Act.put, List.setIfInBounds_toArray, List.set_cons_zero, List.set_cons_succ, i64_w, i32_w]; rfl
                        refine take_ (i := 9) (N := some 65) (v := ?_) (a' := ?_) #[true, true, true, true, true, true, true, true, true, true, false, false] rfl rfl (q21 HT_.out HW_.out (by kernel_rfl)) (fun _ _ _ h => h) (Or.inl ⟨by rfl, ?_⟩) hHeld ?_ ?_; rotate_left
                        · rintro w' ⟨s0, s1, s2, s3, s4, s5⟩; go_simp; with_reducible rfl
                        rotate_left
                        · simp only [Act.put, List.setIfInBounds_toArray, List.set_cons_zero, List.set_cons_succ, i64_w, i32_w]; rfl
                        refine one_ (i := 10) (N := some 66) #[true, true, true, true, true, true, true, true, true, true, true, false] rfl rfl (one_of HT_.out (by kernel_rfl)) (by decide) (fun K hK => ?_); refine goes_ Try.func27 (by kernel_rfl) rfl #[.slice A253_2 ((rd_T42 l0 x5_1).f2).length c253_2, .slice A254_2 ((rd_T42 l1 x5_1).f2).length c254_2] (by rfl) rfl rfl (by (try simp only [List.map_toArray, List.map_cons, List.map_nil]); first | done | rfl | (simp only [List.length_drop, List.length_take]; rfl)) ?_; with_reducible refine (ih kj2 (by have := HK1.out; have := HJ2.out; omega) _ _ ((rd_T42 l0 x5_1).f2) _ _ ((rd_T42 l1 x5_1).f2) t255 _ ?side1 ?side2 ?side3 ?side4 A12.out).mono ?_
                        (case side1 => repeat (first | exact (Kd.C_below HR253_2.out HB.out) | (with_reducible refine Kd.C_alloc ?_ _) | (with_reducible refine Kd.C_drewN ?_ _) | (with_reducible refine Kd.C_drew ?_)))
                        (case side2 => exact HC253_2.out)
                        (case side3 => repeat (first | exact (Kd.C_below HR254_2.out HB.out) | (with_reducible refine Kd.C_alloc ?_ _) | (with_reducible refine Kd.C_drewN ?_ _) | (with_reducible refine Kd.C_drew ?_)))
                        (case side4 => exact HC254_2.out)
                        rintro e w21 ⟨rfl, hb⟩; refine ⟨_, rfl, ?_⟩; have n0_ := Aside0.mk (q14 (by repeat (first | (with_reducible first | exact HB.out | apply q11 | apply q5 | apply q10) | exact HB.out)) hb); clear HB; have HB := n0_; clear n0_; (try clear hb); (try clear hb2); (try clear hk); (try clear hi); refine hK.out _ _ ⟨((HB.out.cell (World.block_lt_of_cell? w _ hw253_0)).trans hw253_0), ((HB.out.cell (World.block_lt_of_cell? w _ hw253_1)).trans hw253_1), ((HB.out.cell (World.block_lt_of_cell? w _ hw253_2)).trans hw253_2), ((HB.out.cell (World.block_lt_of_cell? w _ hw254_0)).trans hw254_0), ((HB.out.cell (World.block_lt_of_cell? w _ hw254_1)).trans hw254_1), ((HB.out.cell (World.block_lt_of_cell? w _ hw254_2)).trans hw254_2)⟩ (fun hHeld => ?_); clear hK K; refine norm_ (a' := ?_) ?_ ?_; rotate_left
                        · show Act.put _ (some 66) _ = _; simp only [Act.put, List.setIfInBounds_toArray, List.set_cons_zero, List.set_cons_succ, i64_w, i32_w]; rfl
                        refine pure_ (i := 11) (N := some 7) (v := ?_) (a' := ?_) #[true, true, true, true, true, true, true, true, true, true, true, true] rfl rfl (any_of HT_.out (by kernel_rfl)) (fun _ _ _ h => h) (Or.inl ⟨by rfl, ?_⟩) ?_ ?_; rotate_left
                        · intro w'; go_simp; with_reducible rfl
                        rotate_left
                        · simp only [Act.put, List.setIfInBounds_toArray, List.set_cons_zero, List.set_cons_succ, i64_w, i32_w]; rfl
                        refine done_ (q30 HT_.out (by kernel_rfl)) ?_
                        try go_wp2
                        go_ret; exact ⟨by first | rfl | (simp [errW_none, errW_some] <;> rfl) | (simp [*, errW_none, errW_some] <;> rfl), by repeat (first | (with_reducible first | exact HB.out | apply q11 | apply q5 | apply q10) | exact HB.out)⟩
                    · rw [if_neg c11] at H; have c11b0 : (t252 == 0) = false := beq_eq_false_iff_ne.mpr c11; have c11b1 : (t252 != 0) = true := bne_iff_ne.mpr c11; obtain rfl := Option.some.inj H
                      try go_wp2
                      have n0_ := Aside0.mk (q10 HB.out); clear HB; have HB := n0_; clear n0_; have p246 : 0 ≤ (x5_1 : Int) := of_decide_eq_true (by first | (with_reducible assumption) | assumption); have q246 : x5_1 < (l0.length : Int) := of_decide_eq_true (by first | (with_reducible assumption) | assumption); obtain ⟨ad246, A246_2, c246_2, e246, hx246_0, hx246_1, hx246_2, hl246_2, hi246_2⟩ := at_T42 HR0.out x5_1 p246 q246; have hw246_2 := hx246_2; have hw246_1 := hx246_1; have hw246_0 := hx246_0; cases e246; replace hx246_0 := (HB.out.cell (World.block_lt_of_cell? w _ hx246_0)).trans hx246_0; replace hx246_1 := (HB.out.cell (World.block_lt_of_cell? w _ hx246_1)).trans hx246_1; replace hx246_2 := (HB.out.cell (World.block_lt_of_cell? w _ hx246_2)).trans hx246_2; have HR246_2 := Aside0.mk hi246_2; have HC246_2 := Aside0.mk hl246_2; clear hi246_2 hl246_2; replace p246 := eq_true p246; replace q246 := eq_true q246; have p247 : 0 ≤ (x5_1 : Int) := of_decide_eq_true (by first | (with_reducible assumption) | assumption); have q247 : x5_1 < (l1.length : Int) := of_decide_eq_true (by first | (with_reducible assumption) | assumption); obtain ⟨ad247, A247_2, c247_2, e247, hx247_0, hx247_1, hx247_2, hl247_2, hi247_2⟩ := at_T42 HR1.out x5_1 p247 q247; have hw247_2 := hx247_2; have hw247_1 := hx247_1; have hw247_0 := hx247_0; cases e247; replace hx247_0 := (HB.out.cell (World.block_lt_of_cell? w _ hx247_0)).trans hx247_0; replace hx247_1 := (HB.out.cell (World.block_lt_of_cell? w _ hx247_1)).trans hx247_1; replace hx247_2 := (HB.out.cell (World.block_lt_of_cell? w _ hx247_2)).trans hx247_2; have HR247_2 := Aside0.mk hi247_2; have HC247_2 := Aside0.mk hl247_2; clear hi247_2 hl247_2; replace p247 := eq_true p247; replace q247 := eq_true q247; refine start_ (n := 11) (S := fun w' => w'.cell? (ad246.add ((x5_1).toNat * 3)) = some (.int .i64 ((rd_T42 l0 x5_1).f0)) ∧ w'.cell? ⟨(ad246.add ((x5_1).toNat * 3)).block, (ad246.add ((x5_1).toNat * 3)).off + 1, none⟩ = some (.string ((rd_T42 l0 x5_1).f1)) ∧ w'.cell? ⟨(ad246.add ((x5_1).toNat * 3)).block, (ad246.add ((x5_1).toNat * 3)).off + 2, none⟩ = some (.slice A246_2 ((rd_T42 l0 x5_1).f2).length c246_2) ∧ w'.cell? (ad247.add ((x5_1).toNat * 3)) = some (.int .i64 ((rd_T42 l1 x5_1).f0)) ∧ w'.cell? ⟨(ad247.add ((x5_1).toNat * 3)).block, (ad247.add ((x5_1).toNat * 3)).off + 1, none⟩ = some (.string ((rd_T42 l1 x5_1).f1)) ∧ w'.cell? ⟨(ad247.add ((x5_1).toNat * 3)).block, (ad247.add ((x5_1).toNat * 3)).off + 2, none⟩ = some (.slice A247_2 ((rd_T42 l1 x5_1).f2).length c247_2)) (ds := []) #[false, false, false, false, false, false, false, false, false, false, false] (by kernel_rfl) rfl rfl ⟨((HB.out.cell (World.block_lt_of_cell? w _ hw246_0)).trans hw246_0), ((HB.out.cell (World.block_lt_of_cell? w _ hw246_1)).trans hw246_1), ((HB.out.cell (World.block_lt_of_cell? w _ hw246_2)).trans hw246_2), ((HB.out.cell (World.block_lt_of_cell? w _ hw247_0)).trans hw247_0), ((HB.out.cell (World.block_lt_of_cell? w _ hw247_1)).trans hw247_1), ((HB.out.cell (World.block_lt_of_cell? w _ hw247_2)).trans hw247_2)⟩ (fun hHeld => ?_); refine q27 chiasmusref01_Compare.tab4 chiasmusref01_Compare.bits4 (fun HT_ HW_ => ?_)
                      generalize wc.drew = w22 at HB HR246_2 HR247_2 hx246_0 hx246_1 hx246_2 hx247_0 hx247_1 hx247_2 hHeld ⊢
                      refine pure_ (i := 0) (N := some 20) (v := ?_) (a' := ?_) #[true, false, false, false, false, false, false, false, false, false, false] rfl rfl (any_of HT_.out (by kernel_rfl)) (fun _ _ _ h => h) (Or.inl ⟨by rfl, ?_⟩) ?_ ?_; rotate_left
                      · intro w'; go_simp; with_reducible rfl
                      rotate_left
                      · simp only [Act.put, List.setIfInBounds_toArray, List.set_cons_zero, List.set_cons_succ, i64_w, i32_w]; rfl
                      refine pure_ (i := 1) (N := some 21) (v := ?_) (a' := ?_) #[true, true, false, false, false, false, false, false, false, false, false] rfl rfl (any_of HT_.out (by kernel_rfl)) (fun _ _ _ h => h) (Or.inl ⟨by rfl, ?_⟩) ?_ ?_; rotate_left
                      · intro w'; go_simp; with_reducible rfl
                      rotate_left
                      · simp only [Act.put, List.setIfInBounds_toArray, List.set_cons_zero, List.set_cons_succ, i64_w, i32_w]; rfl
                      refine pure_ (i := 2) (N := some 22) (v := ?_) (a' := ?_) #[true, true, true, false, false, false, false, false, false, false, false] rfl rfl (any_of HT_.out (by kernel_rfl)) (fun _ _ _ h => h) (Or.inl ⟨by rfl, ?_⟩) ?_ ?_; rotate_left
                      · intro w'; go_simp; with_reducible rfl
                      rotate_left
                      · simp only [Act.put, List.setIfInBounds_toArray, List.set_cons_zero, List.set_cons_succ, i64_w, i32_w]; rfl
                      refine pure_ (i := 3) (N := some 23) (v := ?_) (a' := ?_) #[true, true, true, true, false, false, false, false, false, false, false] rfl rfl (any_of HT_.out (by kernel_rfl)) (fun _ _ _ h => h) (Or.inl ⟨by rfl, ?_⟩) ?_ ?_; rotate_left
                      · intro w'; go_simp; with_reducible rfl
                      rotate_left
                      · simp only [Act.put, List.setIfInBounds_toArray, List.set_cons_zero, List.set_cons_succ, i64_w, i32_w]; rfl
                      refine pure_ (i := 5) (N := some 25) (v := ?_) (a' := ?_) #[true, true, true, true, false, true, false, false, false, false, false] rfl rfl (any_of HT_.out (by kernel_rfl)) (fun _ _ _ h => h) (Or.inl ⟨by rfl, ?_⟩) ?_ ?_; rotate_left
                      · intro w'; go_simp; with_reducible rfl
                      rotate_left
                      · simp only [Act.put, List.setIfInBounds_toArray, List.set_cons_zero, List.set_cons_succ, i64_w, i32_w]; rfl
                      refine pure_ (i := 6) (N := some 26) (v := ?_) (a' := ?_) #[true, true, true, true, false, true, true, false, false, false, false] rfl rfl (any_of HT_.out (by kernel_rfl)) (fun _ _ _ h => h) (Or.inl ⟨by rfl, ?_⟩) ?_ ?_; rotate_left
                      · intro w'; go_simp; with_reducible rfl
                      rotate_left
                      · simp only [Act.put, List.setIfInBounds_toArray, List.set_cons_zero, List.set_cons_succ, i64_w, i32_w]; rfl
                      refine pure_ (i := 7) (N := some 27) (v := ?_) (a' := ?_) #[true, true, true, true, false, true, true, true, false, false, false] rfl rfl (any_of HT_.out (by kernel_rfl)) (fun _ _ _ h => h) (Or.inl ⟨by rfl, ?_⟩) ?_ ?_; rotate_left
                      · intro w'; go_simp; with_reducible rfl
                      rotate_left
                      · simp only [Act.put, List.setIfInBounds_toArray, List.set_cons_zero, List.set_cons_succ, i64_w, i32_w]; rfl
                      refine pure_ (i := 8) (N := some 28) (v := ?_) (a' := ?_) #[true, true, true, true, false, true, true, true, true, false, false] rfl rfl (any_of HT_.out (by kernel_rfl)) (fun _ _ _ h => h) (Or.inl ⟨by rfl, ?_⟩) ?_ ?_; rotate_left
                      · intro w'; go_simp; with_reducible rfl
                      rotate_left
                      · simp only [Act.put, List.setIfInBounds_toArray, List.set_cons_zero, List.set_cons_succ, i64_w, i32_w]; rfl
                      refine take_ (i := 4) (N := some 24) (v := ?_) (a' := ?_) #[true, true, true, true, true, true, true, true, true, false, false] rfl rfl (q21 HT_.out HW_.out (by kernel_rfl)) (fun _ _ _ h => h) (Or.inl ⟨by rfl, ?_⟩) hHeld ?_ ?_; rotate_left
                      · rintro w' ⟨s0, s1, s2, s3, s4, s5⟩; go_simp; with_reducible rfl
                      rotate_left
                      · simp only [Act.put, List.setIfInBounds_toArray, List.set_cons_zero, List.set_cons_succ, i64_w, i32_w]; rfl
                      refine take_ (i := 9) (N := some 29) (v := ?_) (a' := ?_) #[true, true, true, true, true, true, true, true, true, true, false] rfl rfl (q21 HT_.out HW_.out (by kernel_rfl)) (fun _ _ _ h => h) (Or.inl ⟨by rfl, ?_⟩) hHeld ?_ ?_; rotate_left
                      · rintro w' ⟨s0, s1, s2, s3, s4, s5⟩; go_simp; with_reducible rfl
                      rotate_left
                      · simp only [Act.put, List.setIfInBounds_toArray, List.set_cons_zero, List.set_cons_succ, i64_w, i32_w]; rfl
                      refine pure_ (i := 10) (N := some 30) (v := ?_) (a' := ?_) #[true, true, true, true, true, true, true, true, true, true, true] rfl rfl (any_of HT_.out (by kernel_rfl)) (fun _ _ _ h => h) (Or.inl ⟨by rfl, ?_⟩) ?_ ?_; rotate_left
                      · intro w'; go_simp; with_reducible rfl
                      rotate_left
                      · simp only [Act.put, List.setIfInBounds_toArray, List.set_cons_zero, List.set_cons_succ, i64_w, i32_w]; rfl
                      refine done_ (q30 HT_.out (by kernel_rfl)) ?_
                      try go_wp2
                      have n0_ := Aside0.mk (q10 HB.out); clear HB; have HB := n0_; clear n0_; have p250 : 0 ≤ (x5_1 : Int) := of_decide_eq_true (by first | (with_reducible assumption) | assumption); have q250 : x5_1 < (l0.length : Int) := of_decide_eq_true (by first | (with_reducible assumption) | assumption); obtain ⟨ad250, A250_2, c250_2, e250, hx250_0, hx250_1, hx250_2, hl250_2, hi250_2⟩ := at_T42 HR0.out x5_1 p250 q250; have hw250_2 := hx250_2; have hw250_1 := hx250_1; have hw250_0 := hx250_0; obtain rfl : ad246 = ad250 := (by injection e250); replace hx250_0 := (HB.out.cell (World.block_lt_of_cell? w _ hx250_0)).trans hx250_0; replace hx250_1 := (HB.out.cell (World.block_lt_of_cell? w _ hx250_1)).trans hx250_1; replace hx250_2 := (HB.out.cell (World.block_lt_of_cell? w _ hx250_2)).trans hx250_2; have HR250_2 := Aside0.mk hi250_2; have HC250_2 := Aside0.mk hl250_2; clear hi250_2 hl250_2; replace p250 := eq_true p250; replace q250 := eq_true q250; have p251 : 0 ≤ (x5_1 : Int) := of_decide_eq_true (by first | (with_reducible assumption) | assumption); have q251 : x5_1 < (l1.length : Int) := of_decide_eq_true (by first | (with_reducible assumption) | assumption); obtain ⟨ad251, A251_2, c251_2, e251, hx251_0, hx251_1, hx251_2, hl251_2, hi251_2⟩ := at_T42 HR1.out x5_1 p251 q251; have hw251_2 := hx251_2; have hw251_1 := hx251_1; have hw251_0 := hx251_0; obtain rfl : ad247 = ad251 := (by injection e251); replace hx251_0 := (HB.out.cell (World.block_lt_of_cell? w _ hx251_0)).trans hx251_0; replace hx251_1 := (HB.out.cell (World.block_lt_of_cell? w _ hx251_1)).trans hx251_1; replace hx251_2 := (HB.out.cell (World.block_lt_of_cell? w _ hx251_2)).trans hx251_2; have HR251_2 := Aside0.mk hi251_2; have HC251_2 := Aside0.mk hl251_2; clear hi251_2 hl251_2; replace p251 := eq_true p251; replace q251 := eq_true q251; refine start_ (n := 12) (S := fun w' => w'.cell? (ad246.add ((x5_1).toNat * 3)) = some (.int .i64 ((rd_T42 l0 x5_1).f0)) ∧ w'.cell? ⟨(ad246.add ((x5_1).toNat * 3)).block, (ad246.add ((x5_1).toNat * 3)).off + 1, none⟩ = some (.string ((rd_T42 l0 x5_1).f1)) ∧ w'.cell? ⟨(ad246.add ((x5_1).toNat * 3)).block, (ad246.add ((x5_1).toNat * 3)).off + 2, none⟩ = some (.slice A250_2 ((rd_T42 l0 x5_1).f2).length c250_2) ∧ w'.cell? (ad247.add ((x5_1).toNat * 3)) = some (.int .i64 ((rd_T42 l1 x5_1).f0)) ∧ w'.cell? ⟨(ad247.add ((x5_1).toNat * 3)).block, (ad247.add ((x5_1).toNat * 3)).off + 1, none⟩ = some (.string ((rd_T42 l1 x5_1).f1)) ∧ w'.cell? ⟨(ad247.add ((x5_1).toNat * 3)).block, (ad247.add ((x5_1).toNat * 3)).off + 2, none⟩ = some (.slice A251_2 ((rd_T42 l1 x5_1).f2).length c251_2)) (ds := []) #[false, false, false, false, false, false, false, false, false, false, false, false] (by kernel_rfl) rfl rfl ⟨((HB.out.cell (World.block_lt_of_cell? w _ hw250_0)).trans hw250_0), ((HB.out.cell (World.block_lt_of_cell? w _ hw250_1)).trans hw250_1), ((HB.out.cell (World.block_lt_of_cell? w _ hw250_2)).trans hw250_2), ((HB.out.cell (World.block_lt_of_cell? w _ hw251_0)).trans hw251_0), ((HB.out.cell (World.block_lt_of_cell? w _ hw251_1)).trans hw251_1), ((HB.out.cell (World.block_lt_of_cell? w _ hw251_2)).trans hw251_2)⟩ (fun hHeld => ?_); refine q27 chiasmusref01_Compare.tab8 chiasmusref01_Compare.bits8 (fun HT_ HW_ => ?_)
                      generalize w22.drew = w23 at HB HR250_2 HR251_2 hx250_0 hx250_1 hx250_2 hx251_0 hx251_1 hx251_2 hHeld ⊢
                      refine pure_ (i := 0) (N := some 42) (v := ?_) (a' := ?_) #[true, false, false, false, false, false, false, false, false, false, false, false] rfl rfl (any_of HT_.out (by kernel_rfl)) (fun _ _ _ h => h) (Or.inl ⟨by rfl, ?_⟩) ?_ ?_; rotate_left
                      · intro w'; go_simp; with_reducible rfl
                      rotate_left
                      · simp only [Act.put, List.setIfInBounds_toArray, List.set_cons_zero, List.set_cons_succ, i64_w, i32_w]; rfl
                      refine pure_ (i := 1) (N := some 43) (v := ?_) (a' := ?_) #[true, true, false, false, false, false, false, false, false, false, false, false] rfl rfl (any_of HT_.out (by kernel_rfl)) (fun _ _ _ h => h) (Or.inl ⟨by rfl, ?_⟩) ?_ ?_; rotate_left
                      · intro w'; go_simp; with_reducible rfl
                      rotate_left
                      · simp only [Act.put, List.setIfInBounds_toArray, List.set_cons_zero, List.set_cons_succ, i64_w, i32_w]; rfl
                      refine pure_ (i := 2) (N := some 44) (v := ?_) (a' := ?_) #[true, true, true, false, false, false, false, false, false, false, false, false] rfl rfl (any_of HT_.out (by kernel_rfl)) (fun _ _ _ h => h) (Or.inl ⟨by rfl, ?_⟩) ?_ ?_; rotate_left
                      · intro w'; go_simp; with_reducible rfl
                      rotate_left
                      · simp only [Act.put, List.setIfInBounds_toArray, List.set_cons_zero, List.set_cons_succ, i64_w, i32_w]; rfl
                      refine pure_ (i := 3) (N := some 45) (v := ?_) (a' := ?_) #[true, true, true, true, false, false, false, false, false, false, false, false] rfl rfl (any_of HT_.out (by kernel_rfl)) (fun _ _ _ h => h) (Or.inl ⟨by rfl, ?_⟩) ?_ ?_; rotate_left
                      · intro w'; go_simp; with_reducible rfl
                      rotate_left
                      · simp only [Act.put, List.setIfInBounds_toArray, List.set_cons_zero, List.set_cons_succ, i64_w, i32_w]; rfl
                      refine pure_ (i := 5) (N := some 47) (v := ?_) (a' := ?_) #[true, true, true, true, false, true, false, false, false, false, false, false] rfl rfl (any_of HT_.out (by kernel_rfl)) (fun _ _ _ h => h) (Or.inl ⟨by rfl, ?_⟩) ?_ ?_; rotate_left
                      · intro w'; go_simp; with_reducible rfl
                      rotate_left
                      · simp only [Act.put, List.setIfInBounds_toArray, List.set_cons_zero, List.set_cons_succ, i64_w, i32_w]; rfl
                      refine pure_ (i := 6) (N := some 48) (v := ?_) (a' := ?_) #[true, true, true, true, false, true, true, false, false, false, false, false] rfl rfl (any_of HT_.out (by kernel_rfl)) (fun _ _ _ h => h) (Or.inl ⟨by rfl, ?_⟩) ?_ ?_; rotate_left
                      · intro w'; go_simp; with_reducible rfl
                      rotate_left
                      · simp only [Act.put, List.setIfInBounds_toArray, List.set_cons_zero, List.set_cons_succ, i64_w, i32_w]; rfl
                      refine pure_ (i := 7) (N := some 49) (v := ?_) (a' := ?_) #[true, true, true, true, false, true, true, true, false, false, false, false] rfl rfl (any_of HT_.out (by kernel_rfl)) (fun _ _ _ h => h) (Or.inl ⟨by rfl, ?_⟩) ?_ ?_; rotate_left
                      · intro w'; go_simp; with_reducible rfl
                      rotate_left
                      · simp only [Act.put, List.setIfInBounds_toArray, List.set_cons_zero, List.set_cons_succ, i64_w, i32_w]; rfl
                      refine pure_ (i := 8) (N := some 50) (v := ?_) (a' := ?_) #[true, true, true, true, false, true, true, true, true, false, false, false] rfl rfl (any_of HT_.out (by kernel_rfl)) (fun _ _ _ h => h) (Or.inl ⟨by rfl, ?_⟩) ?_ ?_; rotate_left
                      · intro w'; go_simp; with_reducible rfl
                      rotate_left
                      · simp only [Act.put, List.setIfInBounds_toArray, List.set_cons_zero, List.set_cons_succ, i64_w, i32_w]; rfl
                      refine take_ (i := 4) (N := some 46) (v := ?_) (a' := ?_) #[true, true, true, true, true, true, true, true, true, false, false, false] rfl rfl (q21 HT_.out HW_.out (by kernel_rfl)) (fun _ _ _ h => h) (Or.inl ⟨by rfl, ?_⟩) hHeld ?_ ?_; rotate_left
                      · rintro w' ⟨s0, s1, s2, s3, s4, s5⟩; go_simp; with_reducible rfl
                      rotate_left
                      · simp only [Act.put, List.setIfInBounds_toArray, List.set_cons_zero, List.set_cons_succ, i64_w, i32_w]; rfl
                      refine take_ (i := 9) (N := some 51) (v := ?_) (a' := ?_) #[true, true, true, true, true, true, true, true, true, true, false, false] rfl rfl (q21 HT_.out HW_.out (by kernel_rfl)) (fun _ _ _ h => h) (Or.inl ⟨by rfl, ?_⟩) hHeld ?_ ?_; rotate_left
                      · rintro w' ⟨s0, s1, s2, s3, s4, s5⟩; go_simp; with_reducible rfl
                      rotate_left
                      · simp only [Act.put, List.setIfInBounds_toArray, List.set_cons_zero, List.set_cons_succ, i64_w, i32_w]; rfl
                      refine one_ (i := 10) (N := some 52) #[true, true, true, true, true, true, true, true, true, true, true, false] rfl rfl (one_of HT_.out (by kernel_rfl)) (by decide) (fun K hK => ?_); refine goes_ Try.func70 (by kernel_rfl) rfl #[.string ((rd_T42 l0 x5_1).f1), .string ((rd_T42 l1 x5_1).f1)] (by rfl) rfl rfl (by (try simp only [List.map_toArray, List.map_cons, List.map_nil]); first | done | rfl | (simp only [List.length_drop, List.length_take]; rfl)) ?_; with_reducible refine (chiasmusref01_Sign.calls ((rd_T42 l0 x5_1).f1) ((rd_T42 l1 x5_1).f1) t252 _ A10.out).mono ?_
                      rintro e w' ⟨rfl, ⟨nd, rfl⟩⟩; refine ⟨_, rfl, ?_⟩; refine hK.out _ _ ⟨((HB.out.cell (World.block_lt_of_cell? w _ hw250_0)).trans hw250_0), ((HB.out.cell (World.block_lt_of_cell? w _ hw250_1)).trans hw250_1), ((HB.out.cell (World.block_lt_of_cell? w _ hw250_2)).trans hw250_2), ((HB.out.cell (World.block_lt_of_cell? w _ hw251_0)).trans hw251_0), ((HB.out.cell (World.block_lt_of_cell? w _ hw251_1)).trans hw251_1), ((HB.out.cell (World.block_lt_of_cell? w _ hw251_2)).trans hw251_2)⟩ (fun hHeld => ?_); clear hK K; refine norm_ (a' := ?_) ?_ ?_; rotate_left
                      · show Act.put _ (some 52) _ = _; simp only [Act.put, List.setIfInBounds_toArray, List.set_cons_zero, List.set_cons_succ, i64_w, i32_w]; rfl
                      refine pure_ (i := 11) (N := some 6) (v := ?_) (a' := ?_) #[true, true, true, true, true, true, true, true, true, true, true, true] rfl rfl (any_of HT_.out (by kernel_rfl)) (fun _ _ _ h => h) (Or.inl ⟨by rfl, ?_⟩) ?_ ?_; rotate_left
                      · intro w'; go_simp; with_reducible rfl
                      rotate_left
                      · simp only [Act.put, List.setIfInBounds_toArray, List.set_cons_zero, List.set_cons_succ, i64_w, i32_w]; rfl
                      refine done_ (q30 HT_.out (by kernel_rfl)) ?_
                      try go_wp2
                      go_ret; exact ⟨by first | rfl | (simp [errW_none, errW_some] <;> rfl) | (simp [*, errW_none, errW_some] <;> rfl), by repeat (first | (with_reducible first | exact HB.out | apply q11 | apply q5 | apply q10) | exact HB.out)⟩
                  · rw [if_neg c9] at H; have c9b0 : (((rd_T42 l0 x5_1).f0) == ((rd_T42 l1 x5_1).f0)) = false := beq_eq_false_iff_ne.mpr c9; have c9b1 : (((rd_T42 l0 x5_1).f0) != ((rd_T42 l1 x5_1).f0)) = true := bne_iff_ne.mpr c9
                    by_cases c24 : ((rd_T42 l0 x5_1).f0) < ((rd_T42 l1 x5_1).f0)
                    · rw [if_pos c24] at H; have c24b0 : decide (((rd_T42 l0 x5_1).f0) < ((rd_T42 l1 x5_1).f0)) = true := decide_eq_true c24; clear c24; obtain rfl := Option.some.inj H
                      try go_wp2
                      have n0_ := Aside0.mk (q10 HB.out); clear HB; have HB := n0_; clear n0_; have p246 : 0 ≤ (x5_1 : Int) := of_decide_eq_true (by first | (with_reducible assumption) | assumption); have q246 : x5_1 < (l0.length : Int) := of_decide_eq_true (by first | (with_reducible assumption) | assumption); obtain ⟨ad246, A246_2, c246_2, e246, hx246_0, hx246_1, hx246_2, hl246_2, hi246_2⟩ := at_T42 HR0.out x5_1 p246 q246; have hw246_2 := hx246_2; have hw246_1 := hx246_1; have hw246_0 := hx246_0; cases e246; replace hx246_0 := (HB.out.cell (World.block_lt_of_cell? w _ hx246_0)).trans hx246_0; replace hx246_1 := (HB.out.cell (World.block_lt_of_cell? w _ hx246_1)).trans hx246_1; replace hx246_2 := (HB.out.cell (World.block_lt_of_cell? w _ hx246_2)).trans hx246_2; have HR246_2 := Aside0.mk hi246_2; have HC246_2 := Aside0.mk hl246_2; clear hi246_2 hl246_2; replace p246 := eq_true p246; replace q246 := eq_true q246; have p247 : 0 ≤ (x5_1 : Int) := of_decide_eq_true (by first | (with_reducible assumption) | assumption); have q247 : x5_1 < (l1.length : Int) := of_decide_eq_true (by first | (with_reducible assumption) | assumption); obtain ⟨ad247, A247_2, c247_2, e247, hx247_0, hx247_1, hx247_2, hl247_2, hi247_2⟩ := at_T42 HR1.out x5_1 p247 q247; have hw247_2 := hx247_2; have hw247_1 := hx247_1; have hw247_0 := hx247_0; cases e247; replace hx247_0 := (HB.out.cell (World.block_lt_of_cell? w _ hx247_0)).trans hx247_0; replace hx247_1 := (HB.out.cell (World.block_lt_of_cell? w _ hx247_1)).trans hx247_1; replace hx247_2 := (HB.out.cell (World.block_lt_of_cell? w _ hx247_2)).trans hx247_2; have HR247_2 := Aside0.mk hi247_2; have HC247_2 := Aside0.mk hl247_2; clear hi247_2 hl247_2; replace p247 := eq_true p247; replace q247 := eq_true q247; refine start_ (n := 11) (S := fun w' => w'.cell? (ad246.add ((x5_1).toNat * 3)) = some (.int .i64 ((rd_T42 l0 x5_1).f0)) ∧ w'.cell? ⟨(ad246.add ((x5_1).toNat * 3)).block, (ad246.add ((x5_1).toNat * 3)).off + 1, none⟩ = some (.string ((rd_T42 l0 x5_1).f1)) ∧ w'.cell? ⟨(ad246.add ((x5_1).toNat * 3)).block, (ad246.add ((x5_1).toNat * 3)).off + 2, none⟩ = some (.slice A246_2 ((rd_T42 l0 x5_1).f2).length c246_2) ∧ w'.cell? (ad247.add ((x5_1).toNat * 3)) = some (.int .i64 ((rd_T42 l1 x5_1).f0)) ∧ w'.cell? ⟨(ad247.add ((x5_1).toNat * 3)).block, (ad247.add ((x5_1).toNat * 3)).off + 1, none⟩ = some (.string ((rd_T42 l1 x5_1).f1)) ∧ w'.cell? ⟨(ad247.add ((x5_1).toNat * 3)).block, (ad247.add ((x5_1).toNat * 3)).off + 2, none⟩ = some (.slice A247_2 ((rd_T42 l1 x5_1).f2).length c247_2)) (ds := []) #[false, false, false, false, false, false, false, false, false, false, false] (by kernel_rfl) rfl rfl ⟨((HB.out.cell (World.block_lt_of_cell? w _ hw246_0)).trans hw246_0), ((HB.out.cell (World.block_lt_of_cell? w _ hw246_1)).trans hw246_1), ((HB.out.cell (World.block_lt_of_cell? w _ hw246_2)).trans hw246_2), ((HB.out.cell (World.block_lt_of_cell? w _ hw247_0)).trans hw247_0), ((HB.out.cell (World.block_lt_of_cell? w _ hw247_1)).trans hw247_1), ((HB.out.cell (World.block_lt_of_cell? w _ hw247_2)).trans hw247_2)⟩ (fun hHeld => ?_); refine q27 chiasmusref01_Compare.tab4 chiasmusref01_Compare.bits4 (fun HT_ HW_ => ?_)
                      generalize wc.drew = w25 at HB HR246_2 HR247_2 hx246_0 hx246_1 hx246_2 hx247_0 hx247_1 hx247_2 hHeld ⊢
                      refine pure_ (i := 0) (N := some 20) (v := ?_) (a' := ?_) #[true, false, false, false, false, false, false, false, false, false, false] rfl rfl (any_of HT_.out (by kernel_rfl)) (fun _ _ _ h => h) (Or.inl ⟨by rfl, ?_⟩) ?_ ?_; rotate_left
                      · intro w'; go_simp; with_reducible rfl
                      rotate_left
                      · simp only [Act.put, List.setIfInBounds_toArray, List.set_cons_zero, List.set_cons_succ, i64_w, i32_w]; rfl
                      refine pure_ (i := 1) (N := some 21) (v := ?_) (a' := ?_) #[true, true, false, false, false, false, false, false, false, false, false] rfl rfl (any_of HT_.out (by kernel_rfl)) (fun _ _ _ h => h) (Or.inl ⟨by rfl, ?_⟩) ?_ ?_; rotate_left
                      · intro w'; go_simp; with_reducible rfl
                      rotate_left
                      · simp only [Act.put, List.setIfInBounds_toArray, List.set_cons_zero, List.set_cons_succ, i64_w, i32_w]; rfl
                      refine pure_ (i := 2) (N := some 22) (v := ?_) (a' := ?_) #[true, true, true, false, false, false, false, false, false, false, false] rfl rfl (any_of HT_.out (by kernel_rfl)) (fun _ _ _ h => h) (Or.inl ⟨by rfl, ?_⟩) ?_ ?_; rotate_left
                      · intro w'; go_simp; with_reducible rfl
                      rotate_left
                      · simp only [Act.put, List.setIfInBounds_toArray, List.set_cons_zero, List.set_cons_succ, i64_w, i32_w]; rfl
                      refine pure_ (i := 3) (N := some 23) (v := ?_) (a' := ?_) #[true, true, true, true, false, false, false, false, false, false, false] rfl rfl (any_of HT_.out (by kernel_rfl)) (fun _ _ _ h => h) (Or.inl ⟨by rfl, ?_⟩) ?_ ?_; rotate_left
                      · intro w'; go_simp; with_reducible rfl
                      rotate_left
                      · simp only [Act.put, List.setIfInBounds_toArray, List.set_cons_zero, List.set_cons_succ, i64_w, i32_w]; rfl
                      refine pure_ (i := 5) (N := some 25) (v := ?_) (a' := ?_) #[true, true, true, true, false, true, false, false, false, false, false] rfl rfl (any_of HT_.out (by kernel_rfl)) (fun _ _ _ h => h) (Or.inl ⟨by rfl, ?_⟩) ?_ ?_; rotate_left
                      · intro w'; go_simp; with_reducible rfl
                      rotate_left
                      · simp only [Act.put, List.setIfInBounds_toArray, List.set_cons_zero, List.set_cons_succ, i64_w, i32_w]; rfl
                      refine pure_ (i := 6) (N := some 26) (v := ?_) (a' := ?_) #[true, true, true, true, false, true, true, false, false, false, false] rfl rfl (any_of HT_.out (by kernel_rfl)) (fun _ _ _ h => h) (Or.inl ⟨by rfl, ?_⟩) ?_ ?_; rotate_left
                      · intro w'; go_simp; with_reducible rfl
                      rotate_left
                      · simp only [Act.put, List.setIfInBounds_toArray, List.set_cons_zero, List.set_cons_succ, i64_w, i32_w]; rfl
                      refine pure_ (i := 7) (N := some 27) (v := ?_) (a' := ?_) #[true, true, true, true, false, true, true, true, false, false, false] rfl rfl (any_of HT_.out (by kernel_rfl)) (fun _ _ _ h => h) (Or.inl ⟨by rfl, ?_⟩) ?_ ?_; rotate_left
                      · intro w'; go_simp; with_reducible rfl
                      rotate_left
                      · simp only [Act.put, List.setIfInBounds_toArray, List.set_cons_zero, List.set_cons_succ, i64_w, i32_w]; rfl
                      refine pure_ (i := 8) (N := some 28) (v := ?_) (a' := ?_) #[true, true, true, true, false, true, true, true, true, false, false] rfl rfl (any_of HT_.out (by kernel_rfl)) (fun _ _ _ h => h) (Or.inl ⟨by rfl, ?_⟩) ?_ ?_; rotate_left
                      · intro w'; go_simp; with_reducible rfl
                      rotate_left
                      · simp only [Act.put, List.setIfInBounds_toArray, List.set_cons_zero, List.set_cons_succ, i64_w, i32_w]; rfl
                      refine take_ (i := 4) (N := some 24) (v := ?_) (a' := ?_) #[true, true, true, true, true, true, true, true, true, false, false] rfl rfl (q21 HT_.out HW_.out (by kernel_rfl)) (fun _ _ _ h => h) (Or.inl ⟨by rfl, ?_⟩) hHeld ?_ ?_; rotate_left
                      · rintro w' ⟨s0, s1, s2, s3, s4, s5⟩; go_simp; with_reducible rfl
                      rotate_left
                      · simp only [Act.put, List.setIfInBounds_toArray, List.set_cons_zero, List.set_cons_succ, i64_w, i32_w]; rfl
                      refine take_ (i := 9) (N := some 29) (v := ?_) (a' := ?_) #[true, true, true, true, true, true, true, true, true, true, false] rfl rfl (q21 HT_.out HW_.out (by kernel_rfl)) (fun _ _ _ h => h) (Or.inl ⟨by rfl, ?_⟩) hHeld ?_ ?_; rotate_left
                      · rintro w' ⟨s0, s1, s2, s3, s4, s5⟩; go_simp; with_reducible rfl
                      rotate_left
                      · simp only [Act.put, List.setIfInBounds_toArray, List.set_cons_zero, List.set_cons_succ, i64_w, i32_w]; rfl
                      refine pure_ (i := 10) (N := some 30) (v := ?_) (a' := ?_) #[true, true, true, true, true, true, true, true, true, true, true] rfl rfl (any_of HT_.out (by kernel_rfl)) (fun _ _ _ h => h) (Or.inl ⟨by rfl, ?_⟩) ?_ ?_; rotate_left
                      · intro w'; go_simp; with_reducible rfl
                      rotate_left
                      · simp only [Act.put, List.setIfInBounds_toArray, List.set_cons_zero, List.set_cons_succ, i64_w, i32_w]; rfl
                      refine done_ (q30 HT_.out (by kernel_rfl)) ?_
                      try go_wp2
                      have n0_ := Aside0.mk (q10 HB.out); clear HB; have HB := n0_; clear n0_; have p248 : 0 ≤ (x5_1 : Int) := of_decide_eq_true (by first | (with_reducible assumption) | assumption); have q248 : x5_1 < (l0.length : Int) := of_decide_eq_true (by first | (with_reducible assumption) | assumption); obtain ⟨ad248, A248_2, c248_2, e248, hx248_0, hx248_1, hx248_2, hl248_2, hi248_2⟩ := at_T42 HR0.out x5_1 p248 q248; have hw248_2 := hx248_2; have hw248_1 := hx248_1; have hw248_0 := hx248_0; obtain rfl : ad246 = ad248 := (by injection e248); replace hx248_0 := (HB.out.cell (World.block_lt_of_cell? w _ hx248_0)).trans hx248_0; replace hx248_1 := (HB.out.cell (World.block_lt_of_cell? w _ hx248_1)).trans hx248_1; replace hx248_2 := (HB.out.cell (World.block_lt_of_cell? w _ hx248_2)).trans hx248_2; have HR248_2 := Aside0.mk hi248_2; have HC248_2 := Aside0.mk hl248_2; clear hi248_2 hl248_2; replace p248 := eq_true p248; replace q248 := eq_true q248; have p249 : 0 ≤ (x5_1 : Int) := of_decide_eq_true (by first | (with_reducible assumption) | assumption); have q249 : x5_1 < (l1.length : Int) := of_decide_eq_true (by first | (with_reducible assumption) | assumption); obtain ⟨ad249, A249_2, c249_2, e249, hx249_0, hx249_1, hx249_2, hl249_2, hi249_2⟩ := at_T42 HR1.out x5_1 p249 q249; have hw249_2 := hx249_2; have hw249_1 := hx249_1; have hw249_0 := hx249_0; obtain rfl : ad247 = ad249 := (by injection e249); replace hx249_0 := (HB.out.cell (World.block_lt_of_cell? w _ hx249_0)).trans hx249_0; replace hx249_1 := (HB.out.cell (World.block_lt_of_cell? w _ hx249_1)).trans hx249_1; replace hx249_2 := (HB.out.cell (World.block_lt_of_cell? w _ hx249_2)).trans hx249_2; have HR249_2 := Aside0.mk hi249_2; have HC249_2 := Aside0.mk hl249_2; clear hi249_2 hl249_2; replace p249 := eq_true p249; replace q249 := eq_true q249; refine start_ (n := 11) (S := fun w' => w'.cell? (ad246.add ((x5_1).toNat * 3)) = some (.int .i64 ((rd_T42 l0 x5_1).f0)) ∧ w'.cell? ⟨(ad246.add ((x5_1).toNat * 3)).block, (ad246.add ((x5_1).toNat * 3)).off + 1, none⟩ = some (.string ((rd_T42 l0 x5_1).f1)) ∧ w'.cell? ⟨(ad246.add ((x5_1).toNat * 3)).block, (ad246.add ((x5_1).toNat * 3)).off + 2, none⟩ = some (.slice A248_2 ((rd_T42 l0 x5_1).f2).length c248_2) ∧ w'.cell? (ad247.add ((x5_1).toNat * 3)) = some (.int .i64 ((rd_T42 l1 x5_1).f0)) ∧ w'.cell? ⟨(ad247.add ((x5_1).toNat * 3)).block, (ad247.add ((x5_1).toNat * 3)).off + 1, none⟩ = some (.string ((rd_T42 l1 x5_1).f1)) ∧ w'.cell? ⟨(ad247.add ((x5_1).toNat * 3)).block, (ad247.add ((x5_1).toNat * 3)).off + 2, none⟩ = some (.slice A249_2 ((rd_T42 l1 x5_1).f2).length c249_2)) (ds := []) #[false, false, false, false, false, false, false, false, false, false, false] (by kernel_rfl) rfl rfl ⟨((HB.out.cell (World.block_lt_of_cell? w _ hw248_0)).trans hw248_0), ((HB.out.cell (World.block_lt_of_cell? w _ hw248_1)).trans hw248_1), ((HB.out.cell (World.block_lt_of_cell? w _ hw248_2)).trans hw248_2), ((HB.out.cell (World.block_lt_of_cell? w _ hw249_0)).trans hw249_0), ((HB.out.cell (World.block_lt_of_cell? w _ hw249_1)).trans hw249_1), ((HB.out.cell (World.block_lt_of_cell? w _ hw249_2)).trans hw249_2)⟩ (fun hHeld => ?_); refine q27 chiasmusref01_Compare.tab5 chiasmusref01_Compare.bits5 (fun HT_ HW_ => ?_)
                      generalize w25.drew = w26 at HB HR248_2 HR249_2 hx248_0 hx248_1 hx248_2 hx249_0 hx249_1 hx249_2 hHeld ⊢
                      refine pure_ (i := 0) (N := some 31) (v := ?_) (a' := ?_) #[true, false, false, false, false, false, false, false, false, false, false] rfl rfl (any_of HT_.out (by kernel_rfl)) (fun _ _ _ h => h) (Or.inl ⟨by rfl, ?_⟩) ?_ ?_; rotate_left
                      · intro w'; go_simp; with_reducible rfl
                      rotate_left
                      · simp only [Act.put, List.setIfInBounds_toArray, List.set_cons_zero, List.set_cons_succ, i64_w, i32_w]; rfl
                      refine pure_ (i := 1) (N := some 32) (v := ?_) (a' := ?_) #[true, true, false, false, false, false, false, false, false, false, false] rfl rfl (any_of HT_.out (by kernel_rfl)) (fun _ _ _ h => h) (Or.inl ⟨by rfl, ?_⟩) ?_ ?_; rotate_left
                      · intro w'; go_simp; with_reducible rfl
                      rotate_left
                      · simp only [Act.put, List.setIfInBounds_toArray, List.set_cons_zero, List.set_cons_succ, i64_w, i32_w]; rfl
                      refine pure_ (i := 2) (N := some 33) (v := ?_) (a' := ?_) #[true, true, true, false, false, false, false, false, false, false, false] rfl rfl (any_of HT_.out (by kernel_rfl)) (fun _ _ _ h => h) (Or.inl ⟨by rfl, ?_⟩) ?_ ?_; rotate_left
                      · intro w'; go_simp; with_reducible rfl
                      rotate_left
                      · simp only [Act.put, List.setIfInBounds_toArray, List.set_cons_zero, List.set_cons_succ, i64_w, i32_w]; rfl
                      refine pure_ (i := 3) (N := some 34) (v := ?_) (a' := ?_) #[true, true, true, true, false, false, false, false, false, false, false] rfl rfl (any_of HT_.out (by kernel_rfl)) (fun _ _ _ h => h) (Or.inl ⟨by rfl, ?_⟩) ?_ ?_; rotate_left
                      · intro w'; go_simp; with_reducible rfl
                      rotate_left
                      · simp only [Act.put, List.setIfInBounds_toArray, List.set_cons_zero, List.set_cons_succ, i64_w, i32_w]; rfl
                      refine pure_ (i := 5) (N := some 36) (v := ?_) (a' := ?_) #[true, true, true, true, false, true, false, false, false, false, false] rfl rfl (any_of HT_.out (by kernel_rfl)) (fun _ _ _ h => h) (Or.inl ⟨by rfl, ?_⟩) ?_ ?_; rotate_left
                      · intro w'; go_simp; with_reducible rfl
                      rotate_left
                      · simp only [Act.put, List.setIfInBounds_toArray, List.set_cons_zero, List.set_cons_succ, i64_w, i32_w]; rfl
                      refine pure_ (i := 6) (N := some 37) (v := ?_) (a' := ?_) #[true, true, true, true, false, true, true, false, false, false, false] rfl rfl (any_of HT_.out (by kernel_rfl)) (fun _ _ _ h => h) (Or.inl ⟨by rfl, ?_⟩) ?_ ?_; rotate_left
                      · intro w'; go_simp; with_reducible rfl
                      rotate_left
                      · simp only [Act.put, List.setIfInBounds_toArray, List.set_cons_zero, List.set_cons_succ, i64_w, i32_w]; rfl
                      refine pure_ (i := 7) (N := some 38) (v := ?_) (a' := ?_) #[true, true, true, true, false, true, true, true, false, false, false] rfl rfl (any_of HT_.out (by kernel_rfl)) (fun _ _ _ h => h) (Or.inl ⟨by rfl, ?_⟩) ?_ ?_; rotate_left
                      · intro w'; go_simp; with_reducible rfl
                      rotate_left
                      · simp only [Act.put, List.setIfInBounds_toArray, List.set_cons_zero, List.set_cons_succ, i64_w, i32_w]; rfl
                      refine pure_ (i := 8) (N := some 39) (v := ?_) (a' := ?_) #[true, true, true, true, false, true, true, true, true, false, false] rfl rfl (any_of HT_.out (by kernel_rfl)) (fun _ _ _ h => h) (Or.inl ⟨by rfl, ?_⟩) ?_ ?_; rotate_left
                      · intro w'; go_simp; with_reducible rfl
                      rotate_left
                      · simp only [Act.put, List.setIfInBounds_toArray, List.set_cons_zero, List.set_cons_succ, i64_w, i32_w]; rfl
                      refine take_ (i := 4) (N := some 35) (v := ?_) (a' := ?_) #[true, true, true, true, true, true, true, true, true, false, false] rfl rfl (q21 HT_.out HW_.out (by kernel_rfl)) (fun _ _ _ h => h) (Or.inl ⟨by rfl, ?_⟩) hHeld ?_ ?_; rotate_left
                      · rintro w' ⟨s0, s1, s2, s3, s4, s5⟩; go_simp; with_reducible rfl
                      rotate_left
                      · simp only [Act.put, List.setIfInBounds_toArray, List.set_cons_zero, List.set_cons_succ, i64_w, i32_w]; rfl
                      refine take_ (i := 9) (N := some 40) (v := ?_) (a' := ?_) #[true, true, true, true, true, true, true, true, true, true, false] rfl rfl (q21 HT_.out HW_.out (by kernel_rfl)) (fun _ _ _ h => h) (Or.inl ⟨by rfl, ?_⟩) hHeld ?_ ?_; rotate_left
                      · rintro w' ⟨s0, s1, s2, s3, s4, s5⟩; go_simp; with_reducible rfl
                      rotate_left
                      · simp only [Act.put, List.setIfInBounds_toArray, List.set_cons_zero, List.set_cons_succ, i64_w, i32_w]; rfl
                      refine pure_ (i := 10) (N := some 41) (v := ?_) (a' := ?_) #[true, true, true, true, true, true, true, true, true, true, true] rfl rfl (any_of HT_.out (by kernel_rfl)) (fun _ _ _ h => h) (Or.inl ⟨by rfl, ?_⟩) ?_ ?_; rotate_left
                      · intro w'; go_simp; with_reducible rfl
                      rotate_left
                      · simp only [Act.put, List.setIfInBounds_toArray, List.set_cons_zero, List.set_cons_succ, i64_w, i32_w]; rfl
                      refine done_ (q30 HT_.out (by kernel_rfl)) ?_
                      try go_wp2
                      go_ret; exact ⟨by first | rfl | (simp [errW_none, errW_some] <;> rfl) | (simp [*, errW_none, errW_some] <;> rfl), by repeat (first | (with_reducible first | exact HB.out | apply q11 | apply q5 | apply q10) | exact HB.out)⟩
                    · rw [if_neg c24] at H; have c24b0 : decide (((rd_T42 l0 x5_1).f0) < ((rd_T42 l1 x5_1).f0)) = false := decide_eq_false c24; clear c24; obtain rfl := Option.some.inj H
                      try go_wp2
                      have n0_ := Aside0.mk (q10 HB.out); clear HB; have HB := n0_; clear n0_; have p246 : 0 ≤ (x5_1 : Int) := of_decide_eq_true (by first | (with_reducible assumption) | assumption); have q246 : x5_1 < (l0.length : Int) := of_decide_eq_true (by first | (with_reducible assumption) | assumption); obtain ⟨ad246, A246_2, c246_2, e246, hx246_0, hx246_1, hx246_2, hl246_2, hi246_2⟩ := at_T42 HR0.out x5_1 p246 q246; have hw246_2 := hx246_2; have hw246_1 := hx246_1; have hw246_0 := hx246_0; cases e246; replace hx246_0 := (HB.out.cell (World.block_lt_of_cell? w _ hx246_0)).trans hx246_0; replace hx246_1 := (HB.out.cell (World.block_lt_of_cell? w _ hx246_1)).trans hx246_1; replace hx246_2 := (HB.out.cell (World.block_lt_of_cell? w _ hx246_2)).trans hx246_2; have HR246_2 := Aside0.mk hi246_2; have HC246_2 := Aside0.mk hl246_2; clear hi246_2 hl246_2; replace p246 := eq_true p246; replace q246 := eq_true q246; have p247 : 0 ≤ (x5_1 : Int) := of_decide_eq_true (by first | (with_reducible assumption) | assumption); have q247 : x5_1 < (l1.length : Int) := of_decide_eq_true (by first | (with_reducible assumption) | assumption); obtain ⟨ad247, A247_2, c247_2, e247, hx247_0, hx247_1, hx247_2, hl247_2, hi247_2⟩ := at_T42 HR1.out x5_1 p247 q247; have hw247_2 := hx247_2; have hw247_1 := hx247_1; have hw247_0 := hx247_0; cases e247; replace hx247_0 := (HB.out.cell (World.block_lt_of_cell? w _ hx247_0)).trans hx247_0; replace hx247_1 := (HB.out.cell (World.block_lt_of_cell? w _ hx247_1)).trans hx247_1; replace hx247_2 := (HB.out.cell (World.block_lt_of_cell? w _ hx247_2)).trans hx247_2; have HR247_2 := Aside0.mk hi247_2; have HC247_2 := Aside0.mk hl247_2; clear hi247_2 hl247_2; replace p247 := eq_true p247; replace q247 := eq_true q247; refine start_ (n := 11) (S := fun w' => w'.cell? (ad246.add ((x5_1).toNat * 3)) = some (.int .i64 ((rd_T42 l0 x5_1).f0)) ∧ w'.cell? ⟨(ad246.add ((x5_1).toNat * 3)).block, (ad246.add ((x5_1).toNat * 3)).off + 1, none⟩ = some (.string ((rd_T42 l0 x5_1).f1)) ∧ w'.cell? ⟨(ad246.add ((x5_1).toNat * 3)).block, (ad246.add ((x5_1).toNat * 3)).off + 2, none⟩ = some (.slice A246_2 ((rd_T42 l0 x5_1).f2).length c246_2) ∧ w'.cell? (ad247.add ((x5_1).toNat * 3)) = some (.int .i64 ((rd_T42 l1 x5_1).f0)) ∧ w'.cell? ⟨(ad247.add ((x5_1).toNat * 3)).block, (ad247.add ((x5_1).toNat * 3)).off + 1, none⟩ = some (.string ((rd_T42 l1 x5_1).f1)) ∧ w'.cell? ⟨(ad247.add ((x5_1).toNat * 3)).block, (ad247.add ((x5_1).toNat * 3)).off + 2, none⟩ = some (.slice A247_2 ((rd_T42 l1 x5_1).f2).length c247_2)) (ds := []) #[false, false, false, false, false, false, false, false, false, false, false] (by kernel_rfl) rfl rfl ⟨((HB.out.cell (World.block_lt_of_cell? w _ hw246_0)).trans hw246_0), ((HB.out.cell (World.block_lt_of_cell? w _ hw246_1)).trans hw246_1), ((HB.out.cell (World.block_lt_of_cell? w _ hw246_2)).trans hw246_2), ((HB.out.cell (World.block_lt_of_cell? w _ hw247_0)).trans hw247_0), ((HB.out.cell (World.block_lt_of_cell? w _ hw247_1)).trans hw247_1), ((HB.out.cell (World.block_lt_of_cell? w _ hw247_2)).trans hw247_2)⟩ (fun hHeld => ?_); refine q27 chiasmusref01_Compare.tab4 chiasmusref01_Compare.bits4 (fun HT_ HW_ => ?_)
                      generalize wc.drew = w27 at HB HR246_2 HR247_2 hx246_0 hx246_1 hx246_2 hx247_0 hx247_1 hx247_2 hHeld ⊢
                      refine pure_ (i := 0) (N := some 20) (v := ?_) (a' := ?_) #[true, false, false, false, false, false, false, false, false, false, false] rfl rfl (any_of HT_.out (by kernel_rfl)) (fun _ _ _ h => h) (Or.inl ⟨by rfl, ?_⟩) ?_ ?_; rotate_left
                      · intro w'; go_simp; with_reducible rfl
                      rotate_left
                      · simp only [Act.put, List.setIfInBounds_toArray, List.set_cons_zero, List.set_cons_succ, i64_w, i32_w]; rfl
                      refine pure_ (i := 1) (N := some 21) (v := ?_) (a' := ?_) #[true, true, false, false, false, false, false, false, false, false, false] rfl rfl (any_of HT_.out (by kernel_rfl)) (fun _ _ _ h => h) (Or.inl ⟨by rfl, ?_⟩) ?_ ?_; rotate_left
                      · intro w'; go_simp; with_reducible rfl
                      rotate_left
                      · simp only [Act.put, List.setIfInBounds_toArray, List.set_cons_zero, List.set_cons_succ, i64_w, i32_w]; rfl
                      refine pure_ (i := 2) (N := some 22) (v := ?_) (a' := ?_) #[true, true, true, false, false, false, false, false, false, false, false] rfl rfl (any_of HT_.out (by kernel_rfl)) (fun _ _ _ h => h) (Or.inl ⟨by rfl, ?_⟩) ?_ ?_; rotate_left
                      · intro w'; go_simp; with_reducible rfl
                      rotate_left
                      · simp only [Act.put, List.setIfInBounds_toArray, List.set_cons_zero, List.set_cons_succ, i64_w, i32_w]; rfl
                      refine pure_ (i := 3) (N := some 23) (v := ?_) (a' := ?_) #[true, true, true, true, false, false, false, false, false, false, false] rfl rfl (any_of HT_.out (by kernel_rfl)) (fun _ _ _ h => h) (Or.inl ⟨by rfl, ?_⟩) ?_ ?_; rotate_left
                      · intro w'; go_simp; with_reducible rfl
                      rotate_left
                      · simp only [Act.put, List.setIfInBounds_toArray, List.set_cons_zero, List.set_cons_succ, i64_w, i32_w]; rfl
                      refine pure_ (i := 5) (N := some 25) (v := ?_) (a' := ?_) #[true, true, true, true, false, true, false, false, false, false, false] rfl rfl (any_of HT_.out (by kernel_rfl)) (fun _ _ _ h => h) (Or.inl ⟨by rfl, ?_⟩) ?_ ?_; rotate_left
                      · intro w'; go_simp; with_reducible rfl
                      rotate_left
                      · simp only [Act.put, List.setIfInBounds_toArray, List.set_cons_zero, List.set_cons_succ, i64_w, i32_w]; rfl
                      refine pure_ (i := 6) (N := some 26) (v := ?_) (a' := ?_) #[true, true, true, true, false, true, true, false, false, false, false] rfl rfl (any_of HT_.out (by kernel_rfl)) (fun _ _ _ h => h) (Or.inl ⟨by rfl, ?_⟩) ?_ ?_; rotate_left
                      · intro w'; go_simp; with_reducible rfl
                      rotate_left
                      · simp only [Act.put, List.setIfInBounds_toArray, List.set_cons_zero, List.set_cons_succ, i64_w, i32_w]; rfl
                      refine pure_ (i := 7) (N := some 27) (v := ?_) (a' := ?_) #[true, true, true, true, false, true, true, true, false, false, false] rfl rfl (any_of HT_.out (by kernel_rfl)) (fun _ _ _ h => h) (Or.inl ⟨by rfl, ?_⟩) ?_ ?_; rotate_left
                      · intro w'; go_simp; with_reducible rfl
                      rotate_left
                      · simp only [Act.put, List.setIfInBounds_toArray, List.set_cons_zero, List.set_cons_succ, i64_w, i32_w]; rfl
                      refine pure_ (i := 8) (N := some 28) (v := ?_) (a' := ?_) #[true, true, true, true, false, true, true, true, true, false, false] rfl rfl (any_of HT_.out (by kernel_rfl)) (fun _ _ _ h => h) (Or.inl ⟨by rfl, ?_⟩) ?_ ?_; rotate_left
                      · intro w'; go_simp; with_reducible rfl
                      rotate_left
                      · simp only [Act.put, List.setIfInBounds_toArray, List.set_cons_zero, List.set_cons_succ, i64_w, i32_w]; rfl
                      refine take_ (i := 4) (N := some 24) (v := ?_) (a' := ?_) #[true, true, true, true, true, true, true, true, true, false, false] rfl rfl (q21 HT_.out HW_.out (by kernel_rfl)) (fun _ _ _ h => h) (Or.inl ⟨by rfl, ?_⟩) hHeld ?_ ?_; rotate_left
                      · rintro w' ⟨s0, s1, s2, s3, s4, s5⟩; go_simp; with_reducible rfl
                      rotate_left
                      · simp only [Act.put, List.setIfInBounds_toArray, List.set_cons_zero, List.set_cons_succ, i64_w, i32_w]; rfl
                      refine take_ (i := 9) (N := some 29) (v := ?_) (a' := ?_) #[true, true, true, true, true, true, true, true, true, true, false] rfl rfl (q21 HT_.out HW_.out (by kernel_rfl)) (fun _ _ _ h => h) (Or.inl ⟨by rfl, ?_⟩) hHeld ?_ ?_; rotate_left
                      · rintro w' ⟨s0, s1, s2, s3, s4, s5⟩; go_simp; with_reducible rfl
                      rotate_left
                      · simp only [Act.put, List.setIfInBounds_toArray, List.set_cons_zero, List.set_cons_succ, i64_w, i32_w]; rfl
                      refine pure_ (i := 10) (N := some 30) (v := ?_) (a' := ?_) #[true, true, true, true, true, true, true, true, true, true, true] rfl rfl (any_of HT_.out (by kernel_rfl)) (fun _ _ _ h => h) (Or.inl ⟨by rfl, ?_⟩) ?_ ?_; rotate_left
                      · intro w'; go_simp; with_reducible rfl
                      rotate_left
                      · simp only [Act.put, List.setIfInBounds_toArray, List.set_cons_zero, List.set_cons_succ, i64_w, i32_w]; rfl
                      refine done_ (q30 HT_.out (by kernel_rfl)) ?_
                      try go_wp2
                      have n0_ := Aside0.mk (q10 HB.out); clear HB; have HB := n0_; clear n0_; have p248 : 0 ≤ (x5_1 : Int) := of_decide_eq_true (by first | (with_reducible assumption) | assumption); have q248 : x5_1 < (l0.length : Int) := of_decide_eq_true (by first | (with_reducible assumption) | assumption); obtain ⟨ad248, A248_2, c248_2, e248, hx248_0, hx248_1, hx248_2, hl248_2, hi248_2⟩ := at_T42 HR0.out x5_1 p248 q248; have hw248_2 := hx248_2; have hw248_1 := hx248_1; have hw248_0 := hx248_0; obtain rfl : ad246 = ad248 := (by injection e248); replace hx248_0 := (HB.out.cell (World.block_lt_of_cell? w _ hx248_0)).trans hx248_0; replace hx248_1 := (HB.out.cell (World.block_lt_of_cell? w _ hx248_1)).trans hx248_1; replace hx248_2 := (HB.out.cell (World.block_lt_of_cell? w _ hx248_2)).trans hx248_2; have HR248_2 := Aside0.mk hi248_2; have HC248_2 := Aside0.mk hl248_2; clear hi248_2 hl248_2; replace p248 := eq_true p248; replace q248 := eq_true q248; have p249 : 0 ≤ (x5_1 : Int) := of_decide_eq_true (by first | (with_reducible assumption) | assumption); have q249 : x5_1 < (l1.length : Int) := of_decide_eq_true (by first | (with_reducible assumption) | assumption); obtain ⟨ad249, A249_2, c249_2, e249, hx249_0, hx249_1, hx249_2, hl249_2, hi249_2⟩ := at_T42 HR1.out x5_1 p249 q249; have hw249_2 := hx249_2; have hw249_1 := hx249_1; have hw249_0 := hx249_0; obtain rfl : ad247 = ad249 := (by injection e249); replace hx249_0 := (HB.out.cell (World.block_lt_of_cell? w _ hx249_0)).trans hx249_0; replace hx249_1 := (HB.out.cell (World.block_lt_of_cell? w _ hx249_1)).trans hx249_1; replace hx249_2 := (HB.out.cell (World.block_lt_of_cell? w _ hx249_2)).trans hx249_2; have HR249_2 := Aside0.mk hi249_2; have HC249_2 := Aside0.mk hl249_2; clear hi249_2 hl249_2; replace p249 := eq_true p249; replace q249 := eq_true q249; refine start_ (n := 11) (S := fun w' => w'.cell? (ad246.add ((x5_1).toNat * 3)) = some (.int .i64 ((rd_T42 l0 x5_1).f0)) ∧ w'.cell? ⟨(ad246.add ((x5_1).toNat * 3)).block, (ad246.add ((x5_1).toNat * 3)).off + 1, none⟩ = some (.string ((rd_T42 l0 x5_1).f1)) ∧ w'.cell? ⟨(ad246.add ((x5_1).toNat * 3)).block, (ad246.add ((x5_1).toNat * 3)).off + 2, none⟩ = some (.slice A248_2 ((rd_T42 l0 x5_1).f2).length c248_2) ∧ w'.cell? (ad247.add ((x5_1).toNat * 3)) = some (.int .i64 ((rd_T42 l1 x5_1).f0)) ∧ w'.cell? ⟨(ad247.add ((x5_1).toNat * 3)).block, (ad247.add ((x5_1).toNat * 3)).off + 1, none⟩ = some (.string ((rd_T42 l1 x5_1).f1)) ∧ w'.cell? ⟨(ad247.add ((x5_1).toNat * 3)).block, (ad247.add ((x5_1).toNat * 3)).off + 2, none⟩ = some (.slice A249_2 ((rd_T42 l1 x5_1).f2).length c249_2)) (ds := []) #[false, false, false, false, false, false, false, false, false, false, false] (by kernel_rfl) rfl rfl ⟨((HB.out.cell (World.block_lt_of_cell? w _ hw248_0)).trans hw248_0), ((HB.out.cell (World.block_lt_of_cell? w _ hw248_1)).trans hw248_1), ((HB.out.cell (World.block_lt_of_cell? w _ hw248_2)).trans hw248_2), ((HB.out.cell (World.block_lt_of_cell? w _ hw249_0)).trans hw249_0), ((HB.out.cell (World.block_lt_of_cell? w _ hw249_1)).trans hw249_1), ((HB.out.cell (World.block_lt_of_cell? w _ hw249_2)).trans hw249_2)⟩ (fun hHeld => ?_); refine q27 chiasmusref01_Compare.tab5 chiasmusref01_Compare.bits5 (fun HT_ HW_ => ?_)
                      generalize w27.drew = w28 at HB HR248_2 HR249_2 hx248_0 hx248_1 hx248_2 hx249_0 hx249_1 hx249_2 hHeld ⊢
                      refine pure_ (i := 0) (N := some 31) (v := ?_) (a' := ?_) #[true, false, false, false, false, false, false, false, false, false, false] rfl rfl (any_of HT_.out (by kernel_rfl)) (fun _ _ _ h => h) (Or.inl ⟨by rfl, ?_⟩) ?_ ?_; rotate_left
                      · intro w'; go_simp; with_reducible rfl
                      rotate_left
                      · simp only [Act.put, List.setIfInBounds_toArray, List.set_cons_zero, List.set_cons_succ, i64_w, i32_w]; rfl
                      refine pure_ (i := 1) (N := some 32) (v := ?_) (a' := ?_) #[true, true, false, false, false, false, false, false, false, false, false] rfl rfl (any_of HT_.out (by kernel_rfl)) (fun _ _ _ h => h) (Or.inl ⟨by rfl, ?_⟩) ?_ ?_; rotate_left
                      · intro w'; go_simp; with_reducible rfl
                      rotate_left
                      · simp only [Act.put, List.setIfInBounds_toArray, List.set_cons_zero, List.set_cons_succ, i64_w, i32_w]; rfl
                      refine pure_ (i := 2) (N := some 33) (v := ?_) (a' := ?_) #[true, true, true, false, false, false, false, false, false, false, false] rfl rfl (any_of HT_.out (by kernel_rfl)) (fun _ _ _ h => h) (Or.inl ⟨by rfl, ?_⟩) ?_ ?_; rotate_left
                      · intro w'; go_simp; with_reducible rfl
                      rotate_left
                      · simp only [Act.put, List.setIfInBounds_toArray, List.set_cons_zero, List.set_cons_succ, i64_w, i32_w]; rfl
                      refine pure_ (i := 3) (N := some 34) (v := ?_) (a' := ?_) #[true, true, true, true, false, false, false, false, false, false, false] rfl rfl (any_of HT_.out (by kernel_rfl)) (fun _ _ _ h => h) (Or.inl ⟨by rfl, ?_⟩) ?_ ?_; rotate_left
                      · intro w'; go_simp; with_reducible rfl
                      rotate_left
                      · simp only [Act.put, List.setIfInBounds_toArray, List.set_cons_zero, List.set_cons_succ, i64_w, i32_w]; rfl
                      refine pure_ (i := 5) (N := some 36) (v := ?_) (a' := ?_) #[true, true, true, true, false, true, false, false, false, false, false] rfl rfl (any_of HT_.out (by kernel_rfl)) (fun _ _ _ h => h) (Or.inl ⟨by rfl, ?_⟩) ?_ ?_; rotate_left
                      · intro w'; go_simp; with_reducible rfl
                      rotate_left
                      · simp only [Act.put, List.setIfInBounds_toArray, List.set_cons_zero, List.set_cons_succ, i64_w, i32_w]; rfl
                      refine pure_ (i := 6) (N := some 37) (v := ?_) (a' := ?_) #[true, true, true, true, false, true, true, false, false, false, false] rfl rfl (any_of HT_.out (by kernel_rfl)) (fun _ _ _ h => h) (Or.inl ⟨by rfl, ?_⟩) ?_ ?_; rotate_left
                      · intro w'; go_simp; with_reducible rfl
                      rotate_left
                      · simp only [Act.put, List.setIfInBounds_toArray, List.set_cons_zero, List.set_cons_succ, i64_w, i32_w]; rfl
                      refine pure_ (i := 7) (N := some 38) (v := ?_) (a' := ?_) #[true, true, true, true, false, true, true, true, false, false, false] rfl rfl (any_of HT_.out (by kernel_rfl)) (fun _ _ _ h => h) (Or.inl ⟨by rfl, ?_⟩) ?_ ?_; rotate_left
                      · intro w'; go_simp; with_reducible rfl
                      rotate_left
                      · simp only [Act.put, List.setIfInBounds_toArray, List.set_cons_zero, List.set_cons_succ, i64_w, i32_w]; rfl
                      refine pure_ (i := 8) (N := some 39) (v := ?_) (a' := ?_) #[true, true, true, true, false, true, true, true, true, false, false] rfl rfl (any_of HT_.out (by kernel_rfl)) (fun _ _ _ h => h) (Or.inl ⟨by rfl, ?_⟩) ?_ ?_; rotate_left
                      · intro w'; go_simp; with_reducible rfl
                      rotate_left
                      · simp only [Act.put, List.setIfInBounds_toArray, List.set_cons_zero, List.set_cons_succ, i64_w, i32_w]; rfl
                      refine take_ (i := 4) (N := some 35) (v := ?_) (a' := ?_) #[true, true, true, true, true, true, true, true, true, false, false] rfl rfl (q21 HT_.out HW_.out (by kernel_rfl)) (fun _ _ _ h => h) (Or.inl ⟨by rfl, ?_⟩) hHeld ?_ ?_; rotate_left
                      · rintro w' ⟨s0, s1, s2, s3, s4, s5⟩; go_simp; with_reducible rfl
                      rotate_left
                      · simp only [Act.put, List.setIfInBounds_toArray, List.set_cons_zero, List.set_cons_succ, i64_w, i32_w]; rfl
                      refine take_ (i := 9) (N := some 40) (v := ?_) (a' := ?_) #[true, true, true, true, true, true, true, true, true, true, false] rfl rfl (q21 HT_.out HW_.out (by kernel_rfl)) (fun _ _ _ h => h) (Or.inl ⟨by rfl, ?_⟩) hHeld ?_ ?_; rotate_left
                      · rintro w' ⟨s0, s1, s2, s3, s4, s5⟩; go_simp; with_reducible rfl
                      rotate_left
                      · simp only [Act.put, List.setIfInBounds_toArray, List.set_cons_zero, List.set_cons_succ, i64_w, i32_w]; rfl
                      refine pure_ (i := 10) (N := some 41) (v := ?_) (a' := ?_) #[true, true, true, true, true, true, true, true, true, true, true] rfl rfl (any_of HT_.out (by kernel_rfl)) (fun _ _ _ h => h) (Or.inl ⟨by rfl, ?_⟩) ?_ ?_; rotate_left
                      · intro w'; go_simp; with_reducible rfl
                      rotate_left
                      · simp only [Act.put, List.setIfInBounds_toArray, List.set_cons_zero, List.set_cons_succ, i64_w, i32_w]; rfl
                      refine done_ (q30 HT_.out (by kernel_rfl)) ?_
                      try go_wp2
                      go_ret; exact ⟨by first | rfl | (simp [errW_none, errW_some] <;> rfl) | (simp [*, errW_none, errW_some] <;> rfl), by repeat (first | (with_reducible first | exact HB.out | apply q11 | apply q5 | apply q10) | exact HB.out)⟩
                · rw [if_neg c8] at H; exact absurd H (by simp)
              · rw [if_neg c7] at H; exact absurd H (by simp)
            · rw [if_neg c6] at H; exact absurd H (by simp)
          · replace c5 := Bool.eq_false_iff.mpr c5; subst c5
            have H1 : (if (l0.length : Int) < (l1.length : Int) then (some (-1)) else (if (l0.length : Int) > (l1.length : Int) then (some 1) else (some 0))) = some r := by rw [if_neg (show ¬ (false = true) by decide)] at H; exact H
            clear H; have H := H1; clear H1
            by_cases c29 : (l0.length : Int) < (l1.length : Int)
            · rw [if_pos c29] at H; have c29b0 : decide ((l0.length : Int) < (l1.length : Int)) = true := decide_eq_true c29; have c29b1 : decide (l0.length < l1.length) = true := decide_eq_true (Int.ofNat_lt.mp c29); clear c29; obtain rfl := Option.some.inj H
              go_wp2
              go_ret; exact ⟨by first | rfl | (simp [errW_none, errW_some] <;> rfl) | (simp [*, errW_none, errW_some] <;> rfl), by repeat (first | (with_reducible first | exact HB.out | apply q11 | apply q5 | apply q10) | exact HB.out)⟩
            · rw [if_neg c29] at H; have c29b0 : decide ((l0.length : Int) < (l1.length : Int)) = false := decide_eq_false c29; have c29b1 : decide (l0.length < l1.length) = false := decide_eq_false (fun h => c29 (Int.ofNat_lt.mpr h)); clear c29
              by_cases c30 : (l0.length : Int) > (l1.length : Int)
              · rw [if_pos c30] at H; have c30b0 : decide ((l1.length : Int) < (l0.length : Int)) = true := decide_eq_true c30; have c30b1 : decide (l1.length < l0.length) = true := decide_eq_true (Int.ofNat_lt.mp c30); clear c30; obtain rfl := Option.some.inj H
                go_wp2
                go_ret; exact ⟨by first | rfl | (simp [errW_none, errW_some] <;> rfl) | (simp [*, errW_none, errW_some] <;> rfl), by repeat (first | (with_reducible first | exact HB.out | apply q11 | apply q5 | apply q10) | exact HB.out)⟩
              · rw [if_neg c30] at H; have c30b0 : decide ((l1.length : Int) < (l0.length : Int)) = false := decide_eq_false c30; have c30b1 : decide (l1.length < l0.length) = false := decide_eq_false (fun h => c30 (Int.ofNat_lt.mpr h)); clear c30; obtain rfl := Option.some.inj H
                go_wp2
                go_ret; exact ⟨by first | rfl | (simp [errW_none, errW_some] <;> rfl) | (simp [*, errW_none, errW_some] <;> rfl), by repeat (first | (with_reducible first | exact HB.out | apply q11 | apply q5 | apply q10) | exact HB.out)⟩
end Go.Proofs.Ytdbjjaodkapikaa.TE
