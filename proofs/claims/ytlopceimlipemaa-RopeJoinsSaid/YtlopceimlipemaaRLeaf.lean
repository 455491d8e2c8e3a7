import Derived.Test.YtlopceimlipemaaRConcat
import Derived.Laws.CopyOwn
import Derived.Test.YtlopceimlipemaaRPure
namespace Go.Proofs.Ytlopceimlipemaa.Rope
open Go.RowKit Go.Proofs.YtlopceimlipemaaW.PrintWords Go.Proofs.YtlopceimlipemaaW.PrintLast Go.Proofs.YtlopceimlipemaaW.PrintMore
set_option linter.unusedVariables false
set_option linter.unusedSimpArgs false

theorem size1_int : (Try.prog.info? 3).map (·.size) = some 1 := by kernel_rfl
/-- The cells of a row that is read, one by one. -/
theorem C_cells_int {w : World} {A : Option Addr} {xs : List Int} (h : D_int.C w A xs.length xs) (h0 : 0 < xs.length) : ∃ ad, A = some ad ∧ ∀ j v, (xs.flatMap K_int.enc)[j]? = some v → w.cell? (ad.add j) = some v := by
  obtain ⟨ad, rfl, hc⟩ := h.2.2 h0
  refine ⟨ad, rfl, fun j v hj => ?_⟩
  have hf : xs.flatMap K_int.enc = xs.map ((.int .i64 : Int → Value)) := by
    clear h h0 hc hj
    induction xs with
    | nil => rfl
    | cons x r ih => simp only [List.flatMap_cons, List.map_cons, ih]; rfl
  rw [hf, List.getElem?_map] at hj
  obtain ⟨x, hx, rfl⟩ := Option.map_eq_some_iff.1 hj
  obtain ⟨c, hl, hk, hcc⟩ := hc j x hx
  have hk' : c = [((.int .i64 : Int → Value)) x] := hk
  subst hk'
  have := hcc 0 _ rfl
  simpa [D_int, Kd.int, Kd.string, Kd.scalar] using this
theorem flatMap_len_int (xs : List Int) : (xs.flatMap K_int.enc).length = xs.length := by
  induction xs with
  | nil => rfl
  | cons x r ih => simp only [List.flatMap_cons, List.length_append, ih, List.length_cons]; show 1 + r.length = _; omega
theorem flatMap_one_int (xs : List Int) : ∀ v ∈ xs.flatMap K_int.enc, v.oneCell' = true := by
  intro v hv
  obtain ⟨x, _, hx⟩ := List.mem_flatMap.1 hv
  have : v = ((.int .i64 : Int → Value)) x := List.mem_singleton.1 hx
  subst this; rfl
set_option maxRecDepth 100000 in
set_option maxHeartbeats 4000000 in
theorem leaf_int.calls (A : Option Addr) (c : Nat) (xs : List Int) (w : World) (hC : D_int.C w A xs.length xs) (hl : xs.length ≤ 16) :
    Calls Try.prog 68 #[.slice A xs.length c] w fun e w' => ∃ p, e = .returned (.pointer p) ∧ IsO K_int w' p (leafO xs) ∧ Below w.heap.size w w' := by
  have HC := Aside0.mk hC
  clear hC
  obtain ⟨n, hn⟩ : ∃ n, xs.length = n := ⟨_, rfl⟩
  unfold leafO
  by_cases h0 : n = 0
  · have b0 : ((n : Int) == 0) = true := by simp [h0]
    rw [hn] at hl ⊢
    rw [if_pos h0]
    subst h0
    clear HC hn
    go_enter Try.func68, Try.ntmps68
    go_wp2
    go_ret
    exact ⟨_, rfl, rfl, Below.refl _ _⟩
  · have b0 : ((n : Int) == 0) = false := by simp [h0]
    rw [if_neg (by omega)]
    have hC1 := HC.out
    obtain ⟨ad, rfl, hcc⟩ := C_cells_int hC1 (by omega)
    have HCC := Aside0.mk hcc
    have HN := Aside0.mk hn
    rw [hn] at hl ⊢
    clear hcc hC1 HC hn
    go_enter Try.func68, Try.ntmps68
    have hlen := flatMap_len_int xs
    rw [HN.out] at hlen
    have HLEN := Aside0.mk hlen
    clear hlen
    go_wp2_with (with_reducible refine wpList_copy_splice rfl (.tmp 14) (.tmp 15) 22 22 rfl 3 Try.underlying22 size1_int (some ⟨w.heap.size, 4, none⟩) (some ad) 16 16 n c rfl rfl w.heap.size 4 (.int .i64 (n : Int) :: .int .i64 1 :: .pointer none :: .pointer none :: K_int.zs 16) 86 (heap_new w _) (xs.flatMap K_int.enc) ?c1 ?c2 ?c3 (flatMap_one_int xs) w.heap.size w ((Below.refl _ w).alloc (Nat.le_refl _) _) (Nat.le_refl _) ?c4)
    case c1 => rw [HLEN.out]; show n = min n 16; omega
    case c2 => exact fun _ j v hj => (Below.cell ((Below.refl w.heap.size w).alloc (Nat.le_refl _) _) (World.block_lt_of_cell? w _ (HCC.out j v hj))).trans (HCC.out j v hj)
    case c3 => rw [HLEN.out]; show 4 + n ≤ 20; omega
    case c4 =>
      intro w' hcell hbel
      have HCL := Aside0.mk hcell.out
      have HBL := Aside0.mk hbel
      clear hcell hbel
      go_wp2
      go_ret
      refine ⟨_, rfl, ⟨w.heap.size, rfl, ?_, ?_, ?_⟩, HBL.out⟩
      · rw [HN.out]; omega
      · rw [HN.out]; exact hl
      · refine HCL.out.trans ?_
        have e : splice (.int .i64 (n : Int) :: .int .i64 1 :: .pointer none :: .pointer none :: K_int.zs 16) 4 (xs.flatMap K_int.enc) = .int .i64 (xs.length : Int) :: .int .i64 1 :: .pointer none :: .pointer none :: (xs.flatMap K_int.enc ++ K_int.zs (16 - xs.length)) := by
          unfold splice
          rw [HLEN.out, HN.out]
          have hd : (.int .i64 (n : Int) :: .int .i64 1 :: .pointer none :: .pointer none :: K_int.zs 16 : List Value).drop (4 + n) = K_int.zs (16 - n) := by
            rw [Nat.add_comm]
            simp only [List.drop_succ_cons, El.zs, K_int, List.flatten_replicate_singleton, List.drop_replicate]
          rw [hd]; rfl
        rw [e]; rfl
/-- The same, the length under a name. -/
theorem leafn_int.calls (A : Option Addr) (c n : Nat) (xs : List Int) (w : World) (hn : xs.length = n) (hC : D_int.C w A n xs) (hl : n ≤ 16) :
    Calls Try.prog 68 #[.slice A n c] w fun e w' => ∃ p, e = .returned (.pointer p) ∧ IsO K_int w' p (leafO xs) ∧ Below w.heap.size w w' := by
  subst hn; exact leaf_int.calls A c xs w hC hl

end Go.Proofs.Ytlopceimlipemaa.Rope

namespace Go.Proofs.Ytlopceimlipemaa.Rope
open Go.RowKit Go.Proofs.YtlopceimlipemaaW.PrintWords Go.Proofs.YtlopceimlipemaaW.PrintLast Go.Proofs.YtlopceimlipemaaW.PrintMore
set_option linter.unusedVariables false
set_option linter.unusedSimpArgs false

theorem size1_string : (Try.prog.info? 9).map (·.size) = some 1 := by kernel_rfl
/-- The cells of a row that is read, one by one. -/
theorem C_cells_string {w : World} {A : Option Addr} {xs : List ByteArray} (h : D_string.C w A xs.length xs) (h0 : 0 < xs.length) : ∃ ad, A = some ad ∧ ∀ j v, (xs.flatMap K_string.enc)[j]? = some v → w.cell? (ad.add j) = some v := by
  obtain ⟨ad, rfl, hc⟩ := h.2.2 h0
  refine ⟨ad, rfl, fun j v hj => ?_⟩
  have hf : xs.flatMap K_string.enc = xs.map (Value.string) := by
    clear h h0 hc hj
    induction xs with
    | nil => rfl
    | cons x r ih => simp only [List.flatMap_cons, List.map_cons, ih]; rfl
  rw [hf, List.getElem?_map] at hj
  obtain ⟨x, hx, rfl⟩ := Option.map_eq_some_iff.1 hj
  obtain ⟨c, hl, hk, hcc⟩ := hc j x hx
  have hk' : c = [(Value.string) x] := hk
  subst hk'
  have := hcc 0 _ rfl
  simpa [D_string, Kd.int, Kd.string, Kd.scalar] using this
theorem flatMap_len_string (xs : List ByteArray) : (xs.flatMap K_string.enc).length = xs.length := by
  induction xs with
  | nil => rfl
  | cons x r ih => simp only [List.flatMap_cons, List.length_append, ih, List.length_cons]; show 1 + r.length = _; omega
theorem flatMap_one_string (xs : List ByteArray) : ∀ v ∈ xs.flatMap K_string.enc, v.oneCell' = true := by
  intro v hv
  obtain ⟨x, _, hx⟩ := List.mem_flatMap.1 hv
  have : v = (Value.string) x := List.mem_singleton.1 hx
  subst this; rfl
set_option maxRecDepth 100000 in
set_option maxHeartbeats 4000000 in
theorem leaf_string.calls (A : Option Addr) (c : Nat) (xs : List ByteArray) (w : World) (hC : D_string.C w A xs.length xs) (hl : xs.length ≤ 16) :
    Calls Try.prog 76 #[.slice A xs.length c] w fun e w' => ∃ p, e = .returned (.pointer p) ∧ IsO K_string w' p (leafO xs) ∧ Below w.heap.size w w' := by
  have HC := Aside0.mk hC
  clear hC
  obtain ⟨n, hn⟩ : ∃ n, xs.length = n := ⟨_, rfl⟩
  unfold leafO
  by_cases h0 : n = 0
  · have b0 : ((n : Int) == 0) = true := by simp [h0]
    rw [hn] at hl ⊢
    rw [if_pos h0]
    subst h0
    clear HC hn
    go_enter Try.func76, Try.ntmps76
    go_wp2
    go_ret
    exact ⟨_, rfl, rfl, Below.refl _ _⟩
  · have b0 : ((n : Int) == 0) = false := by simp [h0]
    rw [if_neg (by omega)]
    have hC1 := HC.out
    obtain ⟨ad, rfl, hcc⟩ := C_cells_string hC1 (by omega)
    have HCC := Aside0.mk hcc
    have HN := Aside0.mk hn
    rw [hn] at hl ⊢
    clear hcc hC1 HC hn
    go_enter Try.func76, Try.ntmps76
    have hlen := flatMap_len_string xs
    rw [HN.out] at hlen
    have HLEN := Aside0.mk hlen
    clear hlen
    go_wp2_with (with_reducible refine wpList_copy_splice rfl (.tmp 14) (.tmp 15) 76 76 rfl 9 Try.underlying76 size1_string (some ⟨w.heap.size, 4, none⟩) (some ad) 16 16 n c rfl rfl w.heap.size 4 (.int .i64 (n : Int) :: .int .i64 1 :: .pointer none :: .pointer none :: K_string.zs 16) 112 (heap_new w _) (xs.flatMap K_string.enc) ?c1 ?c2 ?c3 (flatMap_one_string xs) w.heap.size w ((Below.refl _ w).alloc (Nat.le_refl _) _) (Nat.le_refl _) ?c4)
    case c1 => rw [HLEN.out]; show n = min n 16; omega
    case c2 => exact fun _ j v hj => (Below.cell ((Below.refl w.heap.size w).alloc (Nat.le_refl _) _) (World.block_lt_of_cell? w _ (HCC.out j v hj))).trans (HCC.out j v hj)
    case c3 => rw [HLEN.out]; show 4 + n ≤ 20; omega
    case c4 =>
      intro w' hcell hbel
      have HCL := Aside0.mk hcell.out
      have HBL := Aside0.mk hbel
      clear hcell hbel
      go_wp2
      go_ret
      refine ⟨_, rfl, ⟨w.heap.size, rfl, ?_, ?_, ?_⟩, HBL.out⟩
      · rw [HN.out]; omega
      · rw [HN.out]; exact hl
      · refine HCL.out.trans ?_
        have e : splice (.int .i64 (n : Int) :: .int .i64 1 :: .pointer none :: .pointer none :: K_string.zs 16) 4 (xs.flatMap K_string.enc) = .int .i64 (xs.length : Int) :: .int .i64 1 :: .pointer none :: .pointer none :: (xs.flatMap K_string.enc ++ K_string.zs (16 - xs.length)) := by
          unfold splice
          rw [HLEN.out, HN.out]
          have hd : (.int .i64 (n : Int) :: .int .i64 1 :: .pointer none :: .pointer none :: K_string.zs 16 : List Value).drop (4 + n) = K_string.zs (16 - n) := by
            rw [Nat.add_comm]
            simp only [List.drop_succ_cons, El.zs, K_string, List.flatten_replicate_singleton, List.drop_replicate]
          rw [hd]; rfl
        rw [e]; rfl
/-- The same, the length under a name. -/
theorem leafn_string.calls (A : Option Addr) (c n : Nat) (xs : List ByteArray) (w : World) (hn : xs.length = n) (hC : D_string.C w A n xs) (hl : n ≤ 16) :
    Calls Try.prog 76 #[.slice A n c] w fun e w' => ∃ p, e = .returned (.pointer p) ∧ IsO K_string w' p (leafO xs) ∧ Below w.heap.size w w' := by
  subst hn; exact leaf_string.calls A c xs w hC hl

end Go.Proofs.Ytlopceimlipemaa.Rope
