import Derived.Test.YtlopceimlipemaaRSplit
namespace Go.Proofs.Ytlopceimlipemaa.Rope
open Go.RowKit Go.Proofs.YtlopceimlipemaaW.PrintWords Go.Proofs.YtlopceimlipemaaW.PrintLast Go.Proofs.YtlopceimlipemaaW.PrintMore
set_option linter.unusedVariables false
set_option linter.unusedSimpArgs false

/-- What a call of 'build' answers. -/
def Builds_int (A : Option Addr) (c n : Nat) (w : World) (r : Option (Tr Int)) : Prop := Calls Try.prog 47 #[.slice A n c] w fun e w' => ∃ g, e = .returned (.pointer g) ∧ IsO K_int w' g r ∧ Below w.heap.size w w'
set_option maxRecDepth 100000 in
set_option maxHeartbeats 4000000 in
theorem build0_int.calls (A : Option Addr) (c n : Nat) (xs : List Int) (w : World) (hn : xs.length = n) (hC : D_int.C w A n xs) (hl : n ≤ 16) : Builds_int A c n w (leafO xs) := by
  unfold Builds_int
  have HC := Aside0.mk hC
  have HN := Aside0.mk hn
  have d1 : decide ((n : Int) ≤ 16) = true := by simp; omega
  clear hn hC
  go_enter Try.func47, Try.ntmps47
  go_wp2_with (go_at_call 68; with_reducible refine (leafn_int.calls A c n xs _ HN.out HC.out hl).mono ?_; rintro e w1 ⟨g, rfl, hO, hb⟩; have HO := Aside0.mk hO; have HB := Aside0.mk hb; clear hO hb)
  go_ret
  exact ⟨_, rfl, HO.out, HB.out⟩
set_option maxRecDepth 100000 in
set_option maxHeartbeats 4000000 in
theorem build1_int.calls (ad : Addr) (c n k : Nat) (xs : List Int) (w : World) (hn : xs.length = n) (hC : D_int.C w (some ad) n xs) (hc : n ≤ c) (hl : 16 < n) (hm : n ≤ 4611686018427387904) (hk : k = ((n + 15) / 16 + 1) / 2 * 16) (r1 r2 : Option (Tr Int)) (hr1 : lenO r1 = k) (hr2 : lenO r2 = n - k)
    (ih1 : ∀ w1, Below w.heap.size w w1 → Builds_int (some ad) c k w1 r1) (ih2 : ∀ w1, Below w.heap.size w w1 → Builds_int (some (ad.add k)) (c - k) (n - k) w1 r2) : Builds_int (some ad) c n w (joinO r1 r2) := by
  unfold Builds_int at *
  have d1 : decide ((n : Int) ≤ 16) = false := by simp; omega
  have hkn : k < n := by omega
  have hkp : 16 ≤ k := by omega
  have w1_ : IntKind.i64.wrap ((n : Int) + 16) = (n : Int) + 16 := IntWalk.i64_in _ (by omega)
  have HQ : Aside0 ((((n : Int) + 16 - 1) / 16 + 1) / 2 * 16 = (k : Int)) := ⟨by omega⟩
  have hj : lenO r1 + lenO r2 ≤ 4611686018427387904 := by omega
  have IH1 := Aside0.mk ih1
  have IH2 := Aside0.mk ih2
  clear hk hr1 hr2 ih1 ih2 hC hn
  go_enter Try.func47, Try.ntmps47
  go_wp2
  rw [HQ.out]
  have hck : ¬ c = k := by omega
  have hck' : (k : Int) < (c : Int) := by omega
  have hkn' : (k : Int) ≤ (n : Int) := by omega
  have hkc : (k : Int) ≤ (c : Int) := by omega
  have hk0 : (0 : Int) ≤ (k : Int) := Int.natCast_nonneg _
  have hnc : (n : Int) ≤ (c : Int) := by omega
  go_region_held3 (fun _ => True)
    (trivial)
    ((first
      | (go_at_call 47; have hS := below_drew (Below.refl w.heap.size w); with_reducible refine (IH1.out _ hS).mono ?_; rintro e w1 ⟨g1, rfl, hn1, hb1⟩; have hT1 := below_step hS hb1; clear hS; have hS := hT1)
      | (go_at_call 47; with_reducible refine (IH2.out _ hS).mono ?_; rintro e w1 ⟨g2, rfl, hn2, hb2⟩; have hT2 := below_step hS hb2; clear hS; have hS := hT2)
      | (go_at_call 55; with_reducible refine (join_int.calls _ _ r1 r2 _ (hn1.below hb2) hn2 hj).mono ?_; rintro e w1 ⟨g3, rfl, hn3, hb3⟩; have hT3 := below_step hS hb3; clear hS; have hS := hT3)))
  go_wp2
  go_ret
  exact ⟨_, rfl, hn3, hS⟩
theorem buildT_len_int (xs : List Int) : lenO (buildT xs) = xs.length := by rw [← listO_len, buildT_list]
theorem builds_int : ∀ (m : Nat) (A : Option Addr) (c n : Nat) (xs : List Int) (w : World), n ≤ m → xs.length = n → D_int.C w A n xs → n ≤ c → n ≤ 4611686018427387904 → Builds_int A c n w (buildT xs) := by
  intro m
  induction m using Nat.strongRecOn with
  | _ m ih =>
    intro A c n xs w hm hn hC hc hb
    rw [buildT.eq_def]
    by_cases h : xs.length ≤ 16
    · rw [if_pos h]; exact build0_int.calls A c n xs w hn hC (by omega)
    · rw [if_neg h]
      obtain ⟨ad, rfl, _⟩ := hC.2.2 (by omega)
      subst hn
      obtain ⟨k, hk⟩ : ∃ k, k = ((xs.length + 15) / 16 + 1) / 2 * 16 := ⟨_, rfl⟩
      rw [← hk]
      have hT := Kd.C_take hC (m := k) (by omega)
      have hD := Kd.C_drop hC (m := k) (c := c) (by omega) hc
      rw [if_neg (by omega)] at hD
      have e : (some ad).map (·.add (k * D_int.sz)) = some (ad.add k) := by show some (ad.add (k * 1)) = _; rw [Nat.mul_one]
      rw [e] at hD
      rw [List.length_take, show min k xs.length = k by omega] at hT
      rw [List.length_drop] at hD
      exact build1_int.calls ad c xs.length k xs w rfl hC hc (by omega) hb hk (buildT (xs.take k)) (buildT (xs.drop k)) (by rw [buildT_len_int, List.length_take]; omega) (by rw [buildT_len_int, List.length_drop])
        (fun w1 hB => ih k (by omega) (some ad) c k (xs.take k) w1 (Nat.le_refl _) (by rw [List.length_take]; omega) (Kd.C_below hT hB) (by omega) (by omega))
        (fun w1 hB => ih (xs.length - k) (by omega) (some (ad.add k)) (c - k) (xs.length - k) (xs.drop k) w1 (Nat.le_refl _) (by rw [List.length_drop]) (Kd.C_below hD hB) (by omega) (by omega))

end Go.Proofs.Ytlopceimlipemaa.Rope

namespace Go.Proofs.Ytlopceimlipemaa.Rope
open Go.RowKit Go.Proofs.YtlopceimlipemaaW.PrintWords Go.Proofs.YtlopceimlipemaaW.PrintLast Go.Proofs.YtlopceimlipemaaW.PrintMore
set_option linter.unusedVariables false
set_option linter.unusedSimpArgs false

/-- What a call of 'build' answers. -/
def Builds_string (A : Option Addr) (c n : Nat) (w : World) (r : Option (Tr ByteArray)) : Prop := Calls Try.prog 63 #[.slice A n c] w fun e w' => ∃ g, e = .returned (.pointer g) ∧ IsO K_string w' g r ∧ Below w.heap.size w w'
set_option maxRecDepth 100000 in
set_option maxHeartbeats 4000000 in
theorem build0_string.calls (A : Option Addr) (c n : Nat) (xs : List ByteArray) (w : World) (hn : xs.length = n) (hC : D_string.C w A n xs) (hl : n ≤ 16) : Builds_string A c n w (leafO xs) := by
  unfold Builds_string
  have HC := Aside0.mk hC
  have HN := Aside0.mk hn
  have d1 : decide ((n : Int) ≤ 16) = true := by simp; omega
  clear hn hC
  go_enter Try.func63, Try.ntmps63
  go_wp2_with (go_at_call 76; with_reducible refine (leafn_string.calls A c n xs _ HN.out HC.out hl).mono ?_; rintro e w1 ⟨g, rfl, hO, hb⟩; have HO := Aside0.mk hO; have HB := Aside0.mk hb; clear hO hb)
  go_ret
  exact ⟨_, rfl, HO.out, HB.out⟩
set_option maxRecDepth 100000 in
set_option maxHeartbeats 4000000 in
theorem build1_string.calls (ad : Addr) (c n k : Nat) (xs : List ByteArray) (w : World) (hn : xs.length = n) (hC : D_string.C w (some ad) n xs) (hc : n ≤ c) (hl : 16 < n) (hm : n ≤ 4611686018427387904) (hk : k = ((n + 15) / 16 + 1) / 2 * 16) (r1 r2 : Option (Tr ByteArray)) (hr1 : lenO r1 = k) (hr2 : lenO r2 = n - k)
    (ih1 : ∀ w1, Below w.heap.size w w1 → Builds_string (some ad) c k w1 r1) (ih2 : ∀ w1, Below w.heap.size w w1 → Builds_string (some (ad.add k)) (c - k) (n - k) w1 r2) : Builds_string (some ad) c n w (joinO r1 r2) := by
  unfold Builds_string at *
  have d1 : decide ((n : Int) ≤ 16) = false := by simp; omega
  have hkn : k < n := by omega
  have hkp : 16 ≤ k := by omega
  have w1_ : IntKind.i64.wrap ((n : Int) + 16) = (n : Int) + 16 := IntWalk.i64_in _ (by omega)
  have HQ : Aside0 ((((n : Int) + 16 - 1) / 16 + 1) / 2 * 16 = (k : Int)) := ⟨by omega⟩
  have hj : lenO r1 + lenO r2 ≤ 4611686018427387904 := by omega
  have IH1 := Aside0.mk ih1
  have IH2 := Aside0.mk ih2
  clear hk hr1 hr2 ih1 ih2 hC hn
  go_enter Try.func63, Try.ntmps63
  go_wp2
  rw [HQ.out]
  have hck : ¬ c = k := by omega
  have hck' : (k : Int) < (c : Int) := by omega
  have hkn' : (k : Int) ≤ (n : Int) := by omega
  have hkc : (k : Int) ≤ (c : Int) := by omega
  have hk0 : (0 : Int) ≤ (k : Int) := Int.natCast_nonneg _
  have hnc : (n : Int) ≤ (c : Int) := by omega
  go_region_held3 (fun _ => True)
    (trivial)
    ((first
      | (go_at_call 63; have hS := below_drew (Below.refl w.heap.size w); with_reducible refine (IH1.out _ hS).mono ?_; rintro e w1 ⟨g1, rfl, hn1, hb1⟩; have hT1 := below_step hS hb1; clear hS; have hS := hT1)
      | (go_at_call 63; with_reducible refine (IH2.out _ hS).mono ?_; rintro e w1 ⟨g2, rfl, hn2, hb2⟩; have hT2 := below_step hS hb2; clear hS; have hS := hT2)
      | (go_at_call 66; with_reducible refine (join_string.calls _ _ r1 r2 _ (hn1.below hb2) hn2 hj).mono ?_; rintro e w1 ⟨g3, rfl, hn3, hb3⟩; have hT3 := below_step hS hb3; clear hS; have hS := hT3)))
  go_wp2
  go_ret
  exact ⟨_, rfl, hn3, hS⟩
theorem buildT_len_string (xs : List ByteArray) : lenO (buildT xs) = xs.length := by rw [← listO_len, buildT_list]
theorem builds_string : ∀ (m : Nat) (A : Option Addr) (c n : Nat) (xs : List ByteArray) (w : World), n ≤ m → xs.length = n → D_string.C w A n xs → n ≤ c → n ≤ 4611686018427387904 → Builds_string A c n w (buildT xs) := by
  intro m
  induction m using Nat.strongRecOn with
  | _ m ih =>
    intro A c n xs w hm hn hC hc hb
    rw [buildT.eq_def]
    by_cases h : xs.length ≤ 16
    · rw [if_pos h]; exact build0_string.calls A c n xs w hn hC (by omega)
    · rw [if_neg h]
      obtain ⟨ad, rfl, _⟩ := hC.2.2 (by omega)
      subst hn
      obtain ⟨k, hk⟩ : ∃ k, k = ((xs.length + 15) / 16 + 1) / 2 * 16 := ⟨_, rfl⟩
      rw [← hk]
      have hT := Kd.C_take hC (m := k) (by omega)
      have hD := Kd.C_drop hC (m := k) (c := c) (by omega) hc
      rw [if_neg (by omega)] at hD
      have e : (some ad).map (·.add (k * D_string.sz)) = some (ad.add k) := by show some (ad.add (k * 1)) = _; rw [Nat.mul_one]
      rw [e] at hD
      rw [List.length_take, show min k xs.length = k by omega] at hT
      rw [List.length_drop] at hD
      exact build1_string.calls ad c xs.length k xs w rfl hC hc (by omega) hb hk (buildT (xs.take k)) (buildT (xs.drop k)) (by rw [buildT_len_string, List.length_take]; omega) (by rw [buildT_len_string, List.length_drop])
        (fun w1 hB => ih k (by omega) (some ad) c k (xs.take k) w1 (Nat.le_refl _) (by rw [List.length_take]; omega) (Kd.C_below hT hB) (by omega) (by omega))
        (fun w1 hB => ih (xs.length - k) (by omega) (some (ad.add k)) (c - k) (xs.length - k) (xs.drop k) w1 (Nat.le_refl _) (by rw [List.length_drop]) (Kd.C_below hD hB) (by omega) (by omega))

end Go.Proofs.Ytlopceimlipemaa.Rope
