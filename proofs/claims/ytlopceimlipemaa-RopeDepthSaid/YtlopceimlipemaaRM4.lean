import Derived.Test.YtlopceimlipemaaRM3
import Derived.Test.YtlopceimlipemaaRM2
import Derived.BigQuiet
/- RopeDepth: the depth of each rope that operations make. -/
namespace Go.Proofs.Ytlopceimlipemaa.Rope
open Go.RowKit Go.Proofs.YtlopceimlipemaaW.PrintWords Go.Proofs.YtlopceimlipemaaW.PrintLast Go.Proofs.YtlopceimlipemaaW.PrintMore Go.Shelf
set_option linter.unusedVariables false
set_option linter.unusedSimpArgs false

theorem cases22 (d : Nat) (h : d ≤ 21) : d = 0 ∨ d = 1 ∨ d = 2 ∨ d = 3 ∨ d = 4 ∨ d = 5 ∨ d = 6 ∨ d = 7 ∨ d = 8 ∨ d = 9 ∨ d = 10 ∨ d = 11 ∨ d = 12 ∨ d = 13 ∨ d = 14 ∨ d = 15 ∨ d = 16 ∨ d = 17 ∨ d = 18 ∨ d = 19 ∨ d = 20 ∨ d = 21 := by omega
theorem shl_run1 (d : Nat) (h : d ≤ 21) (W : World) : Sem.run Try.prog (binOp .shl 3 (.int .i64 1) (.int .i64 (d : Int))) W = .ok (.int .i64 ((2 ^ d : Nat) : Int)) W := by
  rcases cases22 d h with rfl | rfl | rfl | rfl | rfl | rfl | rfl | rfl | rfl | rfl | rfl | rfl | rfl | rfl | rfl | rfl | rfl | rfl | rfl | rfl | rfl | rfl <;> kernel_rfl
theorem shl_run8 (d : Nat) (h : d ≤ 21) (W : World) : Sem.run Try.prog (binOp .shl 3 (.int .i64 8) (.int .i64 (d : Int))) W = .ok (.int .i64 ((8 * 2 ^ d : Nat) : Int)) W := by
  rcases cases22 d h with rfl | rfl | rfl | rfl | rfl | rfl | rfl | rfl | rfl | rfl | rfl | rfl | rfl | rfl | rfl | rfl | rfl | rfl | rfl | rfl | rfl | rfl <;> kernel_rfl
theorem depth_nums (q : Option (Tr Int)) (h : okO q) (hm : lenO q ≤ 2000) : ∃ d m : Nat, htO q = d ∧ lenO q = m ∧ d ≤ 21 ∧ m ≤ 2000 ∧ 2 ^ d ≤ (m + 1) * (m + 1) ∧ (d = 0 ↔ m = 0) ∧ (0 < d → m ≤ 8 * 2 ^ d) :=
  ⟨_, _, rfl, rfl, ht_60 q h hm, hm, ht_bound q h, ht_zero q h, len_bound q h⟩
theorem below_alloc2 {w X : World} (h : Below w.heap.size w X) (o : Obj) : Below w.heap.size w (X.alloc o) := h.alloc h.size o
theorem below_al (W : World) (o : Obj) : Below W.heap.size W (W.alloc o) := (Below.refl _ _).alloc (Nat.le_refl _) _
theorem smallB_le : ∀ (ls : List (List Int)) (ops : List Op5), smallB ls ops = true → ∀ (k : Nat) (o : Op5), ops[k]? = some o → (modelP (mAll ls (ops.take k)) o).length ≤ 2000
  | ls, [], _, k, o, hk => by simp at hk
  | ls, a :: r, h, k, o, hk => by
    simp only [smallB] at h
    split at h
    · cases h
    · rename_i hc
      cases k with
      | zero =>
        obtain rfl : a = o := by simpa using hk
        simp only [List.take_zero, mAll]; omega
      | succ k => exact smallB_le (ls ++ [modelP ls a]) r h k o (by simpa using hk)
/-- A region whose operations are quiet in a class of worlds, written out. -/
theorem region_quiet {P : Program} {C : World → Prop} {id : Nat} {Q : Exit → Act → World → Prop} {a : Act} {w : World} {l : List Oper} (hm : P.follows .mixedOrders = true) (hB : Region.lexB .any l.toArray = true) (hC : C w.drew)
    (h : wpQuiet P l.toArray C (fun a' => ∀ w', C w' → Q .normal a' w') l a) : (Code.region id l.toArray true).wp P Q a w :=
  wp_region_quiet hm hB hC (by simpa using h)
set_option maxRecDepth 100000 in
set_option maxHeartbeats 4000000 in
theorem deep.calls (p : Option Addr) (q : Option (Tr Int)) (w : World) (hO : IsO K_int w p q) (hok : okO q) (hm : lenO q ≤ 2000) :
    Calls Try.prog 34 #[.agg #[.pointer p]] w fun e w' => e = .returned (.bool false) ∧ Below w.heap.size w w' := by
  obtain ⟨d, m, hd, hmm, hd21, hm2, hpow, hz, hl8⟩ := depth_nums q hok hm
  have k0 := heap_new w (.cells #[.pointer p] 26)
  have hbl : Below w.heap.size w (w.alloc (.cells #[.pointer p] 26)) := (Below.refl _ w).alloc (Nat.le_refl _) _
  obtain ⟨W0, hW0⟩ : ∃ W, w.alloc (.cells #[.pointer p] 26) = W := ⟨_, rfl⟩
  have HW0 := Aside0.mk hW0
  rw [hW0] at k0 hbl
  have x0 : W0.cell? ⟨w.heap.size, 0, none⟩ = some (.pointer p) := (blk_cell k0 0).trans rfl
  have O0 := Aside0.mk (hO.below hbl)
  have HB := Aside0.mk hbl
  have HD := Aside0.mk hd
  have HM := Aside0.mk hmm
  have HL4 : Aside0 (lenO q ≤ 4611686018427387904) := ⟨by omega⟩
  clear k0 hbl hW0 hO hok hm hd hmm
  go_enter Try.func34, Try.ntmps34
  go_wp2_with fail
  rw [HW0.out]
  clear HW0
  have w1 : IntKind.i64.wrap ((m : Int) + 1) = (m : Int) + 1 := wrap_small _ (by omega) (by omega)
  go_region_held3 (fun W' => Below W0.heap.size W0 W' ∧ W'.cell? ⟨w.heap.size, 0, none⟩ = some (.pointer p))
    ((go_split_ands; first | exact ⟨below_drew (Below.refl _ _), x0⟩ | exact ⟨below_step (by assumption) hb1, pw_cell_below hb1 (by assumption)⟩))
    (first
      | (go_at_call 30; go_split_ands; refine (Depth_int.calls p q _ (IsO.below (by assumption) O0.out)).mono ?_; rintro e W1 ⟨rfl, hb1⟩; rw [HD.out])
      | (go_at_call 28; go_split_ands; refine (Len_int.calls p q _ (IsO.below (by assumption) O0.out) HL4.out).mono ?_; rintro e W1 ⟨rfl, hb1⟩; rw [HM.out]))
  have hB1 : Below W0.heap.size W0 W1 := by go_split_ands; assumption
  have z0 : W1.cell? ⟨w.heap.size, 0, none⟩ = some (.pointer p) := by go_split_ands; assumption
  have HB1 := Aside0.mk hB1
  have O1 := Aside0.mk (O0.out.below hB1)
  clear x0 hB1
  obtain ⟨P, hP⟩ : ∃ P, P = 2 ^ d := ⟨_, rfl⟩
  obtain ⟨s, hs⟩ : ∃ s, s = (m + 1) * (m + 1) := ⟨_, rfl⟩
  have hs2 : s ≤ 2001 * 2001 := by rw [hs]; exact Nat.mul_le_mul (by omega) (by omega)
  have r1 := shl_run1 d hd21
  have r8 := shl_run8 d hd21
  rw [← hP] at r1 r8 hpow hl8
  rw [← hs] at hpow
  have hq8 : ((8 * P : Nat) : Int) = 8 * (P : Int) := by omega
  rw [hq8] at r8
  have hmul : ((m : Int) + 1) * ((m : Int) + 1) = (s : Int) := by rw [hs]; push_cast; rfl
  have hwm : IntKind.i64.wrap (((m : Int) + 1) * ((m : Int) + 1)) = (s : Int) := by rw [hmul]; exact IntWalk.i64_in _ (by omega)
  have hp1 : (2 : Int) ^ d = (P : Int) := by rw [hP]; push_cast; rfl
  have hPs : P ≤ 2001 * 2001 := Nat.le_trans hpow hs2
  have hwp : IntKind.i64.wrap ((2 : Int) ^ d) = (P : Int) := by rw [hp1]; exact IntWalk.i64_in _ (by omega)
  have hwp8 : IntKind.i64.wrap (8 * (2 : Int) ^ d) = 8 * (P : Int) := by rw [hp1]; exact IntWalk.i64_in _ (by omega)
  have e1 : decide ((d : Int) < 0) = false := by simp
  have e2 : decide ((60 : Int) < (d : Int)) = false := by simp; omega
  have e2' : decide (60 < d) = false := by simp; omega
  have e3 : decide ((s : Int) < (P : Int)) = false := by simp; omega
  have e3' : decide (s < P) = false := by simp; omega
  have hd0 : (0 : Int) ≤ (d : Int) := Int.natCast_nonneg _
  by_cases h0 : d = 0
  · have hm0 : m = 0 := hz.1 h0
    have e4 : ((d : Int) == 0) = true := by simp; exact h0
    have e5 : ((m : Int) == 0) = true := by simp; exact hm0
    have e4' : (d == 0) = true := by simp; exact h0
    have e5' : (m == 0) = true := by simp; exact hm0
    have e6 : decide ((0 : Int) < (d : Int)) = false := by simp; omega
    have e6' : decide (0 < d) = false := by simp; omega
    have e7 : decide (8 * (P : Int) < (m : Int)) = false := by simp; omega
    have e7' : decide (8 * P < m) = false := by simp; omega
    clear hP hs hs2 hpow hz hl8 hmul hq8 h0 hm0 r1 r8 hp1 hPs
    go_wp2_with fail
    refine region_quiet (C := fun W' => Below W1.heap.size W1 W' ∧ W'.cell? ⟨w.heap.size, 0, none⟩ = some (.pointer p)) (by kernel_rfl) (by kernel_rfl) ⟨below_drew (Below.refl _ _), z0⟩ ?_
    repeat (first
      | go_big_quiet_skip
      | (go_big_quiet_want; first
        | (go_big_quiet_op; go_big_quiet_on)
        | (apply Exists.intro
           refine ⟨fun W hW => ?_, ?_⟩
           · (have hc := hW.2; (try dsimp only at hc); go_simp; first | done | rfl | exact ⟨rfl, rfl⟩)
           go_big_quiet_on
           (try simp only [Act.put, List.setIfInBounds_toArray, List.set_cons_zero, List.set_cons_succ]))
        | (refine ⟨.int .i64 (m : Int), fun W hW => ?_, ?_⟩
           · (go_simp; refine (Len_int.calls p q _ (IsO.below hW.1 O1.out) HL4.out).mono ?_; rintro e W2 ⟨rfl, hb2⟩; exact ⟨by rw [HM.out], below_step hW.1 hb2, pw_cell_below hb2 hW.2⟩)
           go_big_quiet_on
           (try simp only [Act.put, List.setIfInBounds_toArray, List.set_cons_zero, List.set_cons_succ]))))
    refine wpQuiet_nil ?_
    rintro W2 ⟨hB2, z2⟩
    go_wp2
    go_ret
    exact ⟨rfl, below_step (below_step HB.out HB1.out) hB2⟩
  · have hm0 : 0 < m := by rcases Nat.eq_zero_or_pos m with h | h; exact absurd (hz.2 h) h0; exact h
    have h8 := hl8 (by omega)
    have e4 : ((d : Int) == 0) = false := by simp; exact h0
    have e5 : ((m : Int) == 0) = false := by simp; omega
    have e4' : (d == 0) = false := by simp; exact h0
    have e5' : (m == 0) = false := by simp; omega
    have e6 : decide ((0 : Int) < (d : Int)) = true := by simp; omega
    have e6' : decide (0 < d) = true := by simp; omega
    have e7 : decide (8 * (P : Int) < (m : Int)) = false := by simp; omega
    have e7' : decide (8 * P < m) = false := by simp; omega
    clear hP hs hs2 hpow hz hl8 hmul hq8 h0 hm0 r1 r8 hp1 hPs h8
    go_wp2_with fail
    go_region_held3 (fun W' => Below W1.heap.size W1 W' ∧ W'.cell? ⟨w.heap.size, 0, none⟩ = some (.pointer p))
      ((go_split_ands; first | exact ⟨below_drew (Below.refl _ _), z0⟩ | exact ⟨below_step (by assumption) hb2, pw_cell_below hb2 (by assumption)⟩))
      (first
        | (go_at_call 28; go_split_ands; refine (Len_int.calls p q _ (IsO.below (by assumption) O1.out) HL4.out).mono ?_; rintro e W2 ⟨rfl, hb2⟩; rw [HM.out]))
    go_wp2
    go_ret
    exact ⟨rfl, below_step (below_step HB.out HB1.out) (show Below W1.heap.size W1 W2 by go_split_ands; assumption)⟩

set_option maxRecDepth 100000 in
set_option maxHeartbeats 4000000 in
theorem IndexDeep.calls (g n cap : Nat) (qs : List Rp) (w : World) (hn : qs.length = n) (hc : n ≤ cap) (hcell : ∀ (i : Nat) (q : Rp), qs[i]? = some q → w.cell? ((⟨g, 0, none⟩ : Addr).add i) = some (.pointer q.p)) (hok : ∀ q ∈ qs, q.ok w) (h61 : n ≤ 61) :
    Calls Try.prog 60 #[.slice (some ⟨g, 0, none⟩) n cap, .func (.func 34) #[] #[]] w fun e w' => e = .returned (.int .i64 (-1)) ∧ Below w.heap.size w w' := by
  have HN := Aside0.mk hn
  have HCELL := Aside0.mk hcell
  have HOK := Aside0.mk hok
  have hn0 : (0 : Int) ≤ (n : Int) := Int.natCast_nonneg _
  clear hn hcell hok
  go_enter Try.func60, Try.ntmps60
  go_wp2_with fail
  go_loopw [8] (fun u wr => ∃ i : Nat, u = .int .i64 i ∧ i ≤ n ∧ Aside0 (Below w.heap.size w wr)) (fun u wr => n - (intOf u).toNat)
  case atStart => exact ⟨0, rfl, Nat.zero_le _, ⟨Below.refl _ _⟩⟩
  case round =>
    obtain ⟨i, rfl, hi, HBi⟩ := hrel
    by_cases hlt : i < n
    · have hlb : decide ((i : Int) < (n : Int)) = true := by simp; omega
      have hlb2 : decide (i < n) = true := by simp; omega
      obtain ⟨q, hq⟩ : ∃ q, qs[i]? = some q := ⟨_, List.getElem?_eq_getElem (by rw [HN.out]; exact hlt)⟩
      have y1 : wr.cell? ⟨g, i, none⟩ = some (.pointer q.p) := by
        have := pw_cell_below HBi.out (HCELL.out i q hq)
        rwa [add_off, Nat.zero_add] at this
      have hqo := (HOK.out q (List.mem_of_getElem? hq)).keep (KeepE.below HBi.out)
      have hi0 : (0 : Int) ≤ (i : Int) := Int.natCast_nonneg _
      have hin : (i : Int) < (n : Int) := by omega
      have HQO := Aside0.mk hqo
      clear hq hqo
      go_wp2_with (first | (go_at_call 34; with_reducible refine (deep.calls q.p q.T wr HQO.out.is HQO.out.avl HQO.out.most).mono ?_; rintro e W2 ⟨rfl, hb2⟩; have HB2 := Aside0.mk (below_step HBi.out hb2); clear hb2) | fail)
      refine ⟨⟨i + 1, by go_num, by omega, HB2⟩, by simp [intOf]; omega⟩
    · obtain rfl : i = n := by omega
      have hlb : decide ((i : Int) < (i : Int)) = false := by simp
      have hlb2 : decide (i < i) = false := by simp
      go_wp2_with fail
      go_ret
      exact ⟨rfl, HBi.out⟩
set_option maxRecDepth 100000 in
set_option maxHeartbeats 4000000 in
theorem ContainsDeep.calls (g n cap : Nat) (qs : List Rp) (w : World) (hn : qs.length = n) (hc : n ≤ cap) (hcell : ∀ (i : Nat) (q : Rp), qs[i]? = some q → w.cell? ((⟨g, 0, none⟩ : Addr).add i) = some (.pointer q.p)) (hok : ∀ q ∈ qs, q.ok w) (h61 : n ≤ 61) :
    Calls Try.prog 33 #[.slice (some ⟨g, 0, none⟩) n cap, .func (.func 34) #[] #[]] w fun e w' => e = .returned (.bool false) ∧ Below w.heap.size w w' := by
  have HCALL := Aside0.mk (IndexDeep.calls g n cap qs w hn hc hcell hok h61)
  clear hn hc hcell hok h61
  go_enter Try.func33, Try.ntmps33
  go_wp2_with fail
  refine HCALL.out.mono ?_
  rintro e w1 ⟨rfl, hb1⟩
  have HB1 := Aside0.mk hb1
  clear hb1
  go_wp2_with fail
  go_ret
  exact ⟨rfl, HB1.out⟩

set_option maxRecDepth 100000 in
set_option maxHeartbeats 4000000 in
theorem Depth1.calls (A : Option Addr) (n c : Nat) (l : List Int) (B : Option Addr) (no bc : Nat) (ops : List Op5) (w : World) (hC : D_int.C w A n l) (hl : l.length = n) (hc : n ≤ c) (hA : A = none → c = 0) (hO : OpsC w B no ops) (hol : ops.length = no) (hbc : no ≤ bc) (hok : ∀ o ∈ ops, o.ok) (hsm : smallAll l ops = true) :
    Calls Try.prog 7 #[.slice A n c, .slice B no bc] w fun e w' => e = .returned (.bool true) ∧ Below w.heap.size w w' := by
  obtain ⟨hn, hno, hsb⟩ : n ≤ 500 ∧ no ≤ 60 ∧ smallB [l] ops = true := by
    unfold smallAll at hsm
    split at hsm
    · cases hsm
    · exact ⟨by omega, by omega, hsm⟩
  obtain ⟨j0, hj, hy0, hy1, hy2⟩ := info_parts info_ropes
  have HC := Aside0.mk hC
  have HL := Aside0.mk hl
  have HA := Aside0.mk hA
  have HO := Aside0.mk hO
  have HOL := Aside0.mk hol
  have HOK := Aside0.mk hok
  have HSM := Aside0.mk hsm
  have HSB := Aside0.mk hsb
  have E1 : Aside0 (n ≤ 4611686018427387904) := ⟨by omega⟩
  obtain ⟨T, hT⟩ : ∃ T, T = buildT l := ⟨_, rfl⟩
  have HT := Aside0.mk hT
  clear hC hl hA hO hol hok hsm hsb hT
  go_enter Try.func7, Try.ntmps7
  go_wp2_with fail
  refine (small.calls A n c l B no bc ops w HC.out HL.out hc HA.out HO.out HOL.out hbc HOK.out).mono ?_
  rintro e w1 ⟨rfl, hb1⟩
  rw [HSM.out]
  have B1 := Aside0.mk hb1
  clear hb1
  go_wp2_with fail
  refine (Of_int.calls A c n l w1 HL.out (Kd.C_below HC.out B1.out) hc E1.out).mono ?_
  rintro e w2 ⟨g, rfl, hO2, hb2⟩
  rw [← HT.out] at hO2
  have B2 := Aside0.mk (below_step B1.out hb2)
  have O2 := Aside0.mk hO2
  clear hb2 hO2
  go_wp2_with fail
  have hq0 : Ropes w.heap.size (w2.alloc (.cells #[.pointer g] 26)) (.slice (some ⟨w2.heap.size, 0, none⟩) 1 1) [⟨g, T⟩] := ropes_first w.heap.size w2 ⟨g, T⟩ B2.out.size ⟨O2.out, by rw [HT.out]; exact buildT_ok l, by rw [HT.out, ← listO_len, buildT_list, HL.out]; omega⟩
  have hb3 : Below w2.heap.size w2 (w2.alloc (.cells #[.pointer g] 26)) := (Below.refl _ _).alloc (Nat.le_refl _) _
  have hbw := below_step B2.out hb3
  have HQ1 := Aside0.mk hq0
  have HBW := Aside0.mk hbw
  clear hq0 hb3 hbw
  go_loopw [5, 18] (fun v5 u wr => ∃ (k : Nat) (qs : List Rp), u = .int .i64 k ∧ k ≤ no ∧ qs.length = k + 1 ∧ Aside0 (lists qs = mAll [l] (ops.take k)) ∧ Aside0 (Ropes w.heap.size wr v5 qs) ∧ Aside0 (Below w.heap.size w wr)) (fun v5 u wr => no - (intOf u).toNat)
  case atStart => exact ⟨0, [⟨g, T⟩], rfl, Nat.zero_le _, rfl, ⟨by rw [HT.out]; simp [lists, mAll, buildT_list]⟩, HQ1, HBW⟩
  case round =>
    obtain ⟨k, qs, rfl, hk, hqs, HLQ, HQ, HBr⟩ := hrel
    by_cases hlt : k < no
    · have hlb : decide ((k : Int) < (no : Int)) = true := by simp; omega
      have hlb2 : decide (k < no) = true := by simp; omega
      obtain ⟨o, ho⟩ : ∃ o, ops[k]? = some o := ⟨_, List.getElem?_eq_getElem (by rw [HOL.out]; exact hlt)⟩
      obtain ⟨bd, hbd, o0, o1, o2, o3, o4⟩ := (HO.out.below HBr.out).at ho
      subst hbd
      obtain ⟨g5, c5, rfl, _, _, _⟩ := HQ.out.at_ (by omega)
      have hq61 : qs.length ≤ 61 := by omega
      have hq0 : 0 < qs.length := by omega
      have HQS := Aside0.mk hqs
      clear hqs
      have hk0 : (0 : Int) ≤ (k : Int) := Int.natCast_nonneg _
      have hkn : (k : Int) < (no : Int) := by omega
      have HOO := Aside0.mk ho
      clear ho
      have hba : Below wr.heap.size wr (wr.alloc (.cells #[.int .u8 o.kind, .int .u8 o.rope, .int .u8 o.other, .int .i64 o.f, .int .i64 o.t] 58)) := (Below.refl _ _).alloc (Nat.le_refl _) _
      have hqd := HQ.out.keep (KeepE.below hba) (KeepE.below hba)
      obtain ⟨_, _, heq5, T', hT', hTok, hstep⟩ := step_at hqd hq0 (Nat.le_trans hq61 (by decide)) o (HOK.out o (List.mem_of_getElem? HOO.out))
      have hle2 : (modelP (mAll [l] (ops.take k)) o).length ≤ 2000 := smallB_le _ _ HSB.out k o HOO.out
      have htl : listO T' = modelP (mAll [l] (ops.take k)) o := by rw [hT', HLQ.out]
      have htk : ops.take (k + 1) = ops.take k ++ [o] := by rw [List.take_add_one, HOO.out]; rfl
      have HTL := Aside0.mk htl
      have HTK := Aside0.mk htk
      have HLE2 := Aside0.mk hle2
      have HQD := Aside0.mk hqd
      have HBN := Aside0.mk (below_step HBr.out hba)
      have HSTEP := Aside0.mk hstep
      have HTOK := Aside0.mk hTok
      have HRP : Aside0 (∀ (g1 : Option Addr) (W : World), IsO K_int W g1 T' → (⟨g1, T'⟩ : Rp).ok W) := ⟨fun g1 W h => ⟨h, HTOK.out, by show lenO T' ≤ 2000; rw [← listO_len, HTL.out]; exact HLE2.out⟩⟩
      clear heq5 hqd hstep hT' htl htk hle2 hTok hba
      go_wp2_with (first
        | (go_at_call 32; refine HSTEP.out.mono ?_; rintro e V1 ⟨g1, rfl, hO1, hb1⟩; have HB1 := Aside0.mk (below_step HBN.out hb1); have HQ2 := Aside0.mk ((HQD.out.keep (KeepE.below hb1) (KeepE.below hb1)).keep (KeepE.below (below_al V1 (.cells #[.pointer g1] 26))) (KeepE.below (below_al V1 (.cells #[.pointer g1] 26)))); have HO1 := Aside0.mk (Rp.ok.keep (HRP.out g1 V1 hO1) (KeepE.below (below_al V1 (.cells #[.pointer g1] 26)))); have hs1 := HB1.out.size; clear hO1 hb1)
        | (at_builtin; refine wpList_append_own _ rfl _ _ 56 rfl w.heap.size 26 j0 (.agg #[.pointer none]) 1 8 Try.underlying56 hj hy0 hy1 hy2 rfl (by decide) _ _ _ rfl HQ2.out.row ⟨V1.heap.size, 0, none⟩ 1 1 [.pointer g1] rfl rfl (cell_one_new _ _ _) (by simp [Value.oneCell']) (by simp only [maxLen]; omega) (by omega) (by simp; omega) ?_; intro v5 V2 hown5 hgrow5 _; have HQ3 := Aside0.mk (ropes_snoc HQ2.out HO1.out hown5 hgrow5); have HB2 := Aside0.mk ((below_alloc2 HB1.out (.cells #[.pointer g1] 26)).grown hgrow5 (below_alloc2 HB1.out _).size (fun kk e => own_base HQ2.out.row e)); clear hown5 hgrow5)
        | fail)
      refine ⟨⟨k + 1, qs ++ [⟨g1, T'⟩], by go_num, by omega, by rw [List.length_append, HQS.out]; rfl, ⟨?_⟩, HQ3, HB2⟩, by simp [intOf]; omega⟩
      rw [HTK.out, mAll_snoc, ← HTL.out, ← HLQ.out]; simp [lists]
    · obtain rfl : k = no := by omega
      have hlb : decide ((k : Int) < (k : Int)) = false := by simp
      have hlb2 : decide (k < k) = false := by simp
      obtain ⟨g5, c5, rfl, _, hqc, hcq⟩ := HQ.out.at_ (by omega)
      have HCQ := Aside0.mk hcq
      have HQC := Aside0.mk hqc
      have HCALL := Aside0.mk (ContainsDeep.calls g5 qs.length c5 qs wr rfl hqc hcq (fun q hq => HQ.out.each q hq) (by omega))
      clear hqs hcq hqc
      go_wp2_with (first
        | (go_at_call 33; refine HCALL.out.mono ?_; rintro e V1 ⟨rfl, hb1⟩; have HB1 := Aside0.mk (below_step HBr.out hb1); clear hb1)
        | (go_at_call 10; refine (awake.calls _).mono ?_; rintro e V2 ⟨rfl, hb2⟩; have HB2 := Aside0.mk (below_step HB1.out hb2); clear hb2)
        | fail)
      go_ret
      exact ⟨rfl, HB2.out⟩

end Go.Proofs.Ytlopceimlipemaa.Rope

/- RopeDepth: the row's contract. -/
namespace Go.Proofs.Ytlopceimlipemaa.Rope
open Go.RowKit Go.Proofs.YtlopceimlipemaaW.PrintWords Go.Proofs.YtlopceimlipemaaW.PrintLast Go.Proofs.YtlopceimlipemaaW.PrintMore Go.Shelf
set_option linter.unusedVariables false
set_option linter.unusedSimpArgs false
set_option maxRecDepth 100000 in
set_option maxHeartbeats 4000000 in
theorem Depth0.calls (A : Option Addr) (n c : Nat) (l : List Int) (B : Option Addr) (no bc : Nat) (ops : List Op5) (w : World) (hC : D_int.C w A n l) (hl : l.length = n) (hc : n ≤ c) (hA : A = none → c = 0) (hO : OpsC w B no ops) (hol : ops.length = no) (hbc : no ≤ bc) (hok : ∀ o ∈ ops, o.ok) (hsm : smallAll l ops = false) :
    Calls Try.prog 7 #[.slice A n c, .slice B no bc] w fun e w' => e = .returned (.bool true) ∧ Below w.heap.size w w' := by
  have hcall := small.calls A n c l B no bc ops w hC hl hc hA hO hol hbc hok
  rw [hsm] at hcall
  have HCALL := Aside0.mk hcall
  clear hcall hC hl hA hO hol hok hsm
  go_enter Try.func7, Try.ntmps7
  go_wp2_with fail
  refine HCALL.out.mono ?_
  rintro e w1 ⟨rfl, hb1⟩
  have HB1 := Aside0.mk hb1
  clear hb1
  go_wp2_with fail
  refine (awake.calls w1).mono ?_
  rintro e w2 ⟨rfl, hb2⟩
  have HB2 := Aside0.mk (below_step HB1.out hb2)
  clear hb2
  go_wp2_with fail
  go_ret
  exact ⟨rfl, HB2.out⟩
theorem Depth.row (A : Option Addr) (c : Nat) (l : List Int) (B : Option Addr) (bc : Nat) (ops : List Op5) (w : World) (hC : D_int.C w A l.length l) (hc : l.length ≤ c) (_ : l.length * 8 ≤ 140737488351232) (hA : A = none → c = 0) (hO : OpsC w B ops.length ops) (hbc : ops.length ≤ bc) (hok : ∀ o ∈ ops, o.ok) :
    Calls Try.prog 7 #[.slice A l.length c, .slice B ops.length bc] w fun e w' => e = .returned (.bool true) ∧ Below w.heap.size w w' := by
  cases h : smallAll l ops with
  | true => exact Depth1.calls A _ c l B _ bc ops w hC rfl hc hA hO rfl hbc hok h
  | false => exact Depth0.calls A _ c l B _ bc ops w hC rfl hc hA hO rfl hbc hok h

end Go.Proofs.Ytlopceimlipemaa.Rope
