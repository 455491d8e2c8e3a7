import Derived.Test.YtlopceimlipemaaRMore
import Derived.Test.YtlopceimlipemaaRAlike
import Derived.Test.YtlopceimlipemaaRM2
import Derived.Test.YtlopceimlipemaaRAwake
import Derived.Test.YtlopceimlipemaaRPart
import Derived.Test.YtlopceimlipemaaRM1
/- Ropes: the heights of trees. -/
namespace Go.Proofs.Ytlopceimlipemaa.Rope
open Go.RowKit Go.Proofs.YtlopceimlipemaaW.PrintWords Go.Proofs.YtlopceimlipemaaW.PrintLast Go.Proofs.YtlopceimlipemaaW.PrintMore
set_option linter.unusedVariables false
set_option linter.unusedSimpArgs false
variable {α : Type}
/-- Heights of neighbours differ by at most 1; leaves have 1 to 16 elements. -/
def Tr.ok : Tr α → Prop
  | .leaf xs => 1 ≤ xs.length ∧ xs.length ≤ 16
  | .fork a b => a.ok ∧ b.ok ∧ a.ht ≤ b.ht + 1 ∧ b.ht ≤ a.ht + 1
def okO : Option (Tr α) → Prop
  | none => True
  | some t => t.ok
/-- Two trees whose heights differ by at most 2. -/
theorem Tr.bal_ok (a b : Tr α) (ha : a.ok) (hb : b.ok) (h1 : a.ht ≤ b.ht + 2) (h2 : b.ht ≤ a.ht + 2) : (Tr.bal a b).ok ∧ max a.ht b.ht ≤ (Tr.bal a b).ht ∧ (Tr.bal a b).ht ≤ max a.ht b.ht + 1 := by
  unfold Tr.bal
  split
  · rename_i h
    cases a with
    | leaf xs => have := b.ht_pos; simp only [Tr.ht] at h; omega
    | fork al ar =>
      obtain ⟨k1, k2, k3, k4⟩ := ha
      simp only [Tr.ht] at h h1 h2 ⊢
      split
      · rename_i hc
        simp only [Tr.ok, Tr.ht]
        refine ⟨⟨k1, ⟨k2, hb, by omega, by omega⟩, by omega, by omega⟩, by omega, by omega⟩
      · rename_i hc
        cases ar with
        | leaf xs => have := al.ht_pos; simp only [Tr.ht] at hc; omega
        | fork rl rr =>
          obtain ⟨m1, m2, m3, m4⟩ := k2
          simp only [Tr.ht] at h h1 h2 hc k3 k4 ⊢
          simp only [Tr.ok, Tr.ht]
          refine ⟨⟨⟨k1, m1, by omega, by omega⟩, ⟨m2, hb, by omega, by omega⟩, by omega, by omega⟩, by omega, by omega⟩
  · split
    · rename_i hn h
      cases b with
      | leaf xs => have := a.ht_pos; simp only [Tr.ht] at h; omega
      | fork bl br =>
        obtain ⟨k1, k2, k3, k4⟩ := hb
        simp only [Tr.ht] at h h1 h2 hn ⊢
        split
        · rename_i hc
          simp only [Tr.ok, Tr.ht]
          refine ⟨⟨⟨ha, k1, by omega, by omega⟩, k2, by omega, by omega⟩, by omega, by omega⟩
        · rename_i hc
          cases bl with
          | leaf xs => have := br.ht_pos; simp only [Tr.ht] at hc; omega
          | fork ll lr =>
            obtain ⟨m1, m2, m3, m4⟩ := k1
            simp only [Tr.ht] at h h1 h2 hc k3 k4 hn ⊢
            simp only [Tr.ok, Tr.ht]
            refine ⟨⟨⟨ha, m1, by omega, by omega⟩, ⟨m2, k2, by omega, by omega⟩, by omega, by omega⟩, by omega, by omega⟩
    · rename_i hn h
      simp only [Tr.ok, Tr.ht]
      exact ⟨⟨ha, hb, by omega, by omega⟩, by omega, by omega⟩
theorem Tr.ok_len : ∀ t : Tr α, t.ok → 1 ≤ t.len
  | .leaf xs, h => h.1
  | .fork a b, h => Nat.le_trans (a.ok_len h.1) (Nat.le_add_right _ _)
theorem Tr.join_ok (a b : Tr α) (ha : a.ok) (hb : b.ok) : (Tr.join a b).ok ∧ max a.ht b.ht ≤ (Tr.join a b).ht ∧ (Tr.join a b).ht ≤ max a.ht b.ht + 1 := by
  induction hn : SizeOf.sizeOf a + SizeOf.sizeOf b using Nat.strongRecOn generalizing a b with
  | _ n ih =>
    subst hn
    rw [Tr.join.eq_def]
    split
    · rename_i h
      refine ⟨⟨?_, ?_⟩, ?_, ?_⟩
      · rw [List.length_append, Tr.list_len]; have := a.ok_len ha; omega
      · rw [List.length_append, Tr.list_len, Tr.list_len]; exact h.2.2
      · simp only [Tr.ht]; omega
      · simp only [Tr.ht]; omega
    split
    · rename_i h1 h
      cases a with
      | leaf xs => have := b.ht_pos; simp only [Tr.ht] at h; omega
      | fork al ar =>
        obtain ⟨k1, k2, k3, k4⟩ := ha
        obtain ⟨j1, j2, j3⟩ := ih _ (by simp; omega) ar b k2 hb rfl
        change (Tr.bal al (Tr.join ar b)).ok ∧ max (max al.ht ar.ht + 1) b.ht ≤ (Tr.bal al (Tr.join ar b)).ht ∧ (Tr.bal al (Tr.join ar b)).ht ≤ max (max al.ht ar.ht + 1) b.ht + 1
        simp only [Tr.ht] at h
        obtain ⟨g1, g2, g3⟩ := Tr.bal_ok al (Tr.join ar b) k1 j1 (by omega) (by omega)
        have hb0 := ar.ht_pos
        by_cases e2 : al.ht + 1 < (Tr.join ar b).ht
        · exact ⟨g1, by rw [Nat.max_eq_left (show b.ht ≤ max al.ht ar.ht + 1 by omega)]; omega, by omega⟩
        · have : (Tr.bal al (Tr.join ar b)).ht = max al.ht (Tr.join ar b).ht + 1 := by
            unfold Tr.bal
            rw [if_neg (by omega), if_neg (by omega)]
            simp only [Tr.ht]
          exact ⟨g1, by rw [Nat.max_eq_left (show b.ht ≤ max al.ht ar.ht + 1 by omega)]; omega, by omega⟩
    split
    · rename_i h1 h2 h
      cases b with
      | leaf xs => have := a.ht_pos; simp only [Tr.ht] at h; omega
      | fork bl br =>
        obtain ⟨k1, k2, k3, k4⟩ := hb
        obtain ⟨j1, j2, j3⟩ := ih _ (by simp; omega) a bl ha k1 rfl
        change (Tr.bal (Tr.join a bl) br).ok ∧ max a.ht (max bl.ht br.ht + 1) ≤ (Tr.bal (Tr.join a bl) br).ht ∧ (Tr.bal (Tr.join a bl) br).ht ≤ max a.ht (max bl.ht br.ht + 1) + 1
        simp only [Tr.ht] at h
        obtain ⟨g1, g2, g3⟩ := Tr.bal_ok (Tr.join a bl) br j1 k2 (by omega) (by omega)
        by_cases e2 : br.ht + 1 < (Tr.join a bl).ht
        · exact ⟨g1, by rw [Nat.max_eq_right (show a.ht ≤ max bl.ht br.ht + 1 by omega)]; omega, by omega⟩
        · have : (Tr.bal (Tr.join a bl) br).ht = max (Tr.join a bl).ht br.ht + 1 := by
            unfold Tr.bal
            rw [if_neg (by omega), if_neg (by omega)]
            simp only [Tr.ht]
          exact ⟨g1, by rw [Nat.max_eq_right (show a.ht ≤ max bl.ht br.ht + 1 by omega)]; omega, by omega⟩
    · rename_i h1 h2 h3
      simp only [Tr.ok, Tr.ht]
      exact ⟨⟨ha, hb, by omega, by omega⟩, by omega, by omega⟩
theorem joinO_ok : ∀ a b : Option (Tr α), okO a → okO b → okO (joinO a b)
  | none, b, _, hb => hb
  | some a, none, ha, _ => ha
  | some a, some b, ha, hb => (Tr.join_ok a b ha hb).1
theorem leafO_ok (xs : List α) (h : xs.length ≤ 16) : okO (leafO xs) := by
  unfold leafO
  split
  · trivial
  · exact ⟨by omega, h⟩
theorem Tr.split_ok : ∀ (t : Tr α) (n : Int), t.ok → okO (t.split n).1 ∧ okO (t.split n).2
  | .leaf xs, n, h => by
    unfold Tr.split
    split
    · exact ⟨trivial, h⟩
    split
    · exact ⟨h, trivial⟩
    · have := h.2; exact ⟨leafO_ok _ (by rw [List.length_take]; omega), leafO_ok _ (by rw [List.length_drop]; omega)⟩
  | .fork a b, n, h => by
    unfold Tr.split
    split
    · exact ⟨trivial, h⟩
    split
    · exact ⟨h, trivial⟩
    split
    · obtain ⟨h1, h2⟩ := a.split_ok n h.1; exact ⟨h1, joinO_ok _ _ h2 h.2.1⟩
    · obtain ⟨h1, h2⟩ := b.split_ok (n - a.len) h.2.1; exact ⟨joinO_ok _ _ h.1 h1, h2⟩
theorem splitO_ok : ∀ (t : Option (Tr α)) (n : Int), okO t → okO (splitO t n).1 ∧ okO (splitO t n).2
  | none, n, _ => ⟨trivial, trivial⟩
  | some t, n, h => t.split_ok n h
theorem partO_ok (t : Option (Tr α)) (f k : Int) (h : okO t) : okO (partO t f k) := (splitO_ok _ _ (splitO_ok _ _ h).1).2
theorem replO_ok (t : Option (Tr α)) (f k : Int) (s : Option (Tr α)) (h : okO t) (hs : okO s) : okO (replO t f k s) := joinO_ok _ _ (joinO_ok _ _ (splitO_ok _ _ h).1 hs) (splitO_ok _ _ h).2
theorem buildT_ok (l : List α) : okO (buildT l) := by
  induction hn : l.length using Nat.strongRecOn generalizing l with
  | _ n ih =>
    subst hn
    rw [buildT.eq_def]
    by_cases h : l.length ≤ 16
    · rw [if_pos h]; exact leafO_ok l h
    · rw [if_neg h]; exact joinO_ok _ _ (ih _ (by rw [List.length_take]; omega) _ rfl) (ih _ (by rw [List.length_drop]; omega) _ rfl)
/-- How many elements a tree has at least, and at most. -/
def fib : Nat → Nat
  | 0 => 1
  | 1 => 1
  | n + 2 => fib n + fib (n + 1)
theorem fib_mono (n : Nat) : fib n ≤ fib (n + 1) := by
  cases n with
  | zero => exact Nat.le_refl _
  | succ n => show fib (n + 1) ≤ fib n + fib (n + 1); omega
theorem Tr.fib_le : ∀ t : Tr α, t.ok → fib t.ht ≤ t.len
  | .leaf xs, h => h.1
  | .fork a b, h => by
    have h1 := a.fib_le h.1
    have h2 := b.fib_le h.2.1
    have h3 := h.2.2
    simp only [Tr.ht, Tr.len]
    rcases Nat.lt_trichotomy a.ht b.ht with e | e | e
    · have : a.ht + 1 = b.ht := by omega
      rw [show max a.ht b.ht + 1 = a.ht + 2 by omega]
      show fib a.ht + fib (a.ht + 1) ≤ _
      rw [this]; omega
    · rw [show max a.ht b.ht + 1 = b.ht + 1 by omega]
      obtain ⟨k, hk⟩ : ∃ k, b.ht = k + 1 := ⟨b.ht - 1, by have := b.ht_pos; omega⟩
      rw [hk] at h2 ⊢; rw [e, hk] at h1
      show fib k + fib (k + 1) ≤ _
      have := fib_mono k
      omega
    · have : b.ht + 1 = a.ht := by omega
      rw [show max a.ht b.ht + 1 = b.ht + 2 by omega]
      show fib b.ht + fib (b.ht + 1) ≤ _
      rw [this]; omega
theorem fib_pow (n : Nat) : 2 ^ n ≤ (fib n + 1) * (fib n + 1) ∧ 2 ^ (n + 1) ≤ (fib (n + 1) + 1) * (fib (n + 1) + 1) ∧ fib (n + 1) ≤ 2 * fib n ∧ 1 ≤ fib n := by
  induction n with
  | zero => decide
  | succ n ih =>
    obtain ⟨h1, h2, h3, h4⟩ := ih
    have hm := fib_mono n
    refine ⟨h2, ?_, ?_, by omega⟩
    · show 2 ^ (n + 2) ≤ (fib n + fib (n + 1) + 1) * (fib n + fib (n + 1) + 1)
      have e : 2 ^ (n + 2) = 4 * 2 ^ n := by rw [Nat.pow_add]; omega
      have e2 : 2 ^ (n + 1) = 2 * 2 ^ n := by rw [Nat.pow_succ]; omega
      generalize fib n = x at *
      generalize fib (n + 1) = y at *
      generalize 2 ^ n = p at *
      obtain ⟨d, rfl⟩ : ∃ d, y = x + d := ⟨y - x, by omega⟩
      cases d with
      | zero =>
        rw [Nat.add_zero] at *
        have c2 : x * 1 ≤ x * x := Nat.mul_le_mul_left _ h4
        simp only [Nat.mul_add, Nat.add_mul, Nat.mul_one, Nat.one_mul] at *
        omega
      | succ d =>
        have h5 : (2 * (x + 1)) * (2 * (x + 1)) ≤ (x + (x + (d + 1)) + 1) * (x + (x + (d + 1)) + 1) := Nat.mul_le_mul (by omega) (by omega)
        have h6 : (2 * (x + 1)) * (2 * (x + 1)) = 4 * ((x + 1) * (x + 1)) := by rw [Nat.mul_mul_mul_comm]
        rw [e]
        omega
    · show fib n + fib (n + 1) ≤ 2 * fib (n + 1); omega
theorem Tr.len_le : ∀ t : Tr α, t.ok → t.len ≤ 8 * 2 ^ t.ht
  | .leaf xs, h => by have := h.2; simp only [Tr.len, Tr.ht]; omega
  | .fork a b, h => by
    have h1 := a.len_le h.1
    have h2 := b.len_le h.2.1
    simp only [Tr.ht, Tr.len]
    have e1 : 2 ^ a.ht ≤ 2 ^ max a.ht b.ht := Nat.pow_le_pow_right (by omega) (by omega)
    have e2 : 2 ^ b.ht ≤ 2 ^ max a.ht b.ht := Nat.pow_le_pow_right (by omega) (by omega)
    rw [Nat.pow_succ]
    omega
theorem ht_bound (t : Option (Tr α)) (h : okO t) : 2 ^ htO t ≤ (lenO t + 1) * (lenO t + 1) := by
  cases t with
  | none => exact Nat.le_refl _
  | some t =>
    refine Nat.le_trans (fib_pow _).1 ?_
    have := t.fib_le h
    exact Nat.mul_le_mul (Nat.succ_le_succ this) (Nat.succ_le_succ this)
theorem ht_zero (t : Option (Tr α)) (h : okO t) : htO t = 0 ↔ lenO t = 0 := by
  cases t with
  | none => exact ⟨fun _ => rfl, fun _ => rfl⟩
  | some t =>
    have h1 := t.ht_pos
    have h2 := t.ok_len h
    show t.ht = 0 ↔ t.len = 0
    omega
theorem len_bound (t : Option (Tr α)) (h : okO t) (h0 : 0 < htO t) : lenO t ≤ 8 * 2 ^ htO t := by
  cases t with
  | none => exact Nat.zero_le _
  | some t => exact t.len_le h
theorem ht_60 (t : Option (Tr α)) (h : okO t) (hl : lenO t ≤ 2000) : htO t ≤ 21 := by
  have h1 := ht_bound t h
  rcases Nat.lt_or_ge 21 (htO t) with h2 | h2
  · have h3 : 2 ^ 22 ≤ 2 ^ htO t := Nat.pow_le_pow_right (by omega) h2
    have h4 : (lenO t + 1) * (lenO t + 1) ≤ 2001 * 2001 := Nat.mul_le_mul (by omega) (by omega)
    have h5 : (2001 * 2001 : Nat) < 2 ^ 22 := by decide
    omega
  · exact h2

end Go.Proofs.Ytlopceimlipemaa.Rope

/- RopeParts: Part, Split and Replace. -/
namespace Go.Proofs.Ytlopceimlipemaa.Rope
open Go.RowKit Go.Proofs.YtlopceimlipemaaW.PrintWords Go.Proofs.YtlopceimlipemaaW.PrintLast Go.Proofs.YtlopceimlipemaaW.PrintMore Go.Shelf
set_option linter.unusedVariables false
set_option linter.unusedSimpArgs false
attribute [local go_sem] Oper.semAt_some

theorem partO_list {T : Option (Tr Int)} {l : List Int} (hT : listO T = l) (f t : Int) : listO (partO T f t) = partL l f t := by
  subst hT
  unfold partO partL
  rw [(splitO_list _ _).2, (splitO_list _ _).1, listO_len]
theorem take_min (l : List Int) (a b : Nat) (h : b = a ∨ (l.length ≤ a ∧ l.length ≤ b)) : l.take a = l.take b := by
  rcases h with rfl | ⟨h1, h2⟩
  · rfl
  · rw [List.take_of_length_le h1, List.take_of_length_le h2]
theorem drop_min (l : List Int) (a b : Nat) (h : b = a ∨ (l.length ≤ a ∧ l.length ≤ b)) : l.drop a = l.drop b := by
  rcases h with rfl | ⟨h1, h2⟩
  · rfl
  · rw [List.drop_of_length_le h1, List.drop_of_length_le h2]
theorem split1_list {T : Option (Tr Int)} {l : List Int} (hT : listO T = l) (f : Int) : listO (splitO T f).1 = partL l 0 f := by
  subst hT
  rw [(splitO_list _ _).1]
  unfold partL
  rw [show loB (listO T).length 0 = 0 by unfold loB mn mx; repeat' split; all_goals omega]
  simp only [Int.toNat_zero, List.drop_zero]
  apply take_min
  unfold hiB mn mx
  repeat' split
  all_goals omega
theorem split2_list {T : Option (Tr Int)} {l : List Int} (hT : listO T = l) (f : Int) : listO (splitO T f).2 = partL l f l.length := by
  subst hT
  rw [(splitO_list _ _).2]
  unfold partL
  rw [show hiB (listO T).length f ((listO T).length : Int) = ((listO T).length : Int) by unfold hiB mn mx; repeat' split; all_goals omega]
  simp only [Int.toNat_natCast, List.take_length]
  apply drop_min
  unfold loB mn mx
  repeat' split
  all_goals omega
theorem repl_list {T S : Option (Tr Int)} {l m : List Int} (hT : listO T = l) (hS : listO S = m) (f t : Int) : listO (replO T f t S) = replL l f t m := by
  subst hT; subst hS
  unfold replO replL
  rw [joinO_list, joinO_list, (splitO_list _ _).1, (splitO_list _ _).2, listO_len]
theorem partL_le (l : List Int) (f t : Int) : (partL l f t).length ≤ l.length := by
  unfold partL; rw [List.length_drop, List.length_take]; omega
theorem replL_le (l : List Int) (f t : Int) (m : List Int) : (replL l f t m).length ≤ l.length + m.length + l.length := by
  unfold replL; simp only [List.length_append, List.length_drop, List.length_take]; omega

set_option maxRecDepth 100000 in
set_option maxHeartbeats 4000000 in
theorem Parts1.calls (A : Option Addr) (c n : Nat) (l : List Int) (A2 : Option Addr) (c2 n2 : Nat) (m : List Int) (f t : Int) (w : World) (hC : D_int.C w A n l) (hl : l.length = n) (hc : n ≤ c) (hA : A = none → c = 0)
    (hC2 : D_int.C w A2 n2 m) (hl2 : m.length = n2) (hc2 : n2 ≤ c2) (hA2 : A2 = none → c2 = 0) (hn : n ≤ 500) (hn2 : n2 ≤ 500) :
    Calls Try.prog 4 #[.slice A n c, .slice A2 n2 c2, .int .i64 f, .int .i64 t] w fun e w' => e = .returned (.bool true) ∧ Below w.heap.size w w' := by
  obtain ⟨T, hT⟩ : ∃ T, T = buildT l := ⟨_, rfl⟩
  obtain ⟨S, hS⟩ : ∃ S, S = buildT m := ⟨_, rfl⟩
  have hTi : listO T = l := by rw [hT, buildT_list]
  have hSi : listO S = m := by rw [hS, buildT_list]
  have hTl : lenO T = n := by rw [← listO_len, hTi, hl]
  have hSl : lenO S = n2 := by rw [← listO_len, hSi, hl2]
  have d1 : decide ((500 : Int) < (n : Int)) = false := by simp; omega
  have d1' : decide (500 < n) = false := by simp; omega
  have d2 : decide ((500 : Int) < (n2 : Int)) = false := by simp; omega
  have d2' : decide (500 < n2) = false := by simp; omega
  have HC := Aside0.mk hC
  have HL := Aside0.mk hl
  have HA := Aside0.mk hA
  have HC2 := Aside0.mk hC2
  have HL2 := Aside0.mk hl2
  have HA2 := Aside0.mk hA2
  have HT := Aside0.mk hT
  have HS := Aside0.mk hS
  have HTI := Aside0.mk hTi
  have HSI := Aside0.mk hSi
  have HTL := Aside0.mk hTl
  have HSL := Aside0.mk hSl
  have HN4 : Aside0 (n ≤ 4611686018427387904) := ⟨by omega⟩
  have HN42 : Aside0 (n2 ≤ 4611686018427387904) := ⟨by omega⟩
  have HB8 : Aside0 (n * 8 ≤ 35184372088832) := ⟨by omega⟩
  have HB82 : Aside0 (n2 * 8 ≤ 35184372088832) := ⟨by omega⟩
  have HL4 : Aside0 (lenO T ≤ 4611686018427387904) := ⟨by omega⟩
  have HL42 : Aside0 (lenO T + lenO S ≤ 4611686018427387904) := ⟨by omega⟩
  clear hC hl hA hC2 hl2 hA2 hT hS hTi hSi hTl hSl
  go_enter Try.func4, Try.ntmps4
  go_wp2_with fail
  refine (Of_int.calls A c n l _ HL.out HC.out hc HN4.out).mono ?_
  rintro e w1 ⟨g, rfl, hO, hb1⟩
  rw [← HT.out] at hO
  have HO := Aside0.mk hO
  have HB1 := Aside0.mk hb1
  have z1 : (w1.alloc (.cells #[.pointer g] 26)).cell? ⟨w1.heap.size, 0, none⟩ = some (.pointer g) := (blk_cell (heap_new w1 _) 0).trans rfl
  clear hO hb1
  go_wp2_with fail
  have hba : Below w1.heap.size w1 (w1.alloc (.cells #[.pointer g] 26)) := (Below.refl _ _).alloc (Nat.le_refl _) _
  refine (RSplit_int.calls g f T _ (HO.out.below hba) HL4.out).mono ?_
  rintro e w2 ⟨ga, gb, rfl, hOa, hOb, hb2⟩
  have K1 := blk_below (heap_new w1 (.cells #[.pointer g] 26)) hb2
  obtain ⟨k2, k3, hb3⟩ := alloc2 w2 (.cells #[.pointer ga] 26) (.cells #[.pointer gb] 26)
  obtain ⟨W3, hW3⟩ : ∃ W, (w2.alloc (.cells #[.pointer ga] 26)).alloc (.cells #[.pointer gb] 26) = W := ⟨_, rfl⟩
  have HW3 := Aside0.mk hW3
  rw [hW3] at k2 k3 hb3
  have x1 : W3.cell? ⟨w1.heap.size, 0, none⟩ = some (.pointer g) := (blk_cell (blk_below K1 hb3) 0).trans rfl
  have x2 : W3.cell? ⟨w2.heap.size, 0, none⟩ = some (.pointer ga) := (blk_cell k2 0).trans rfl
  have x3 : W3.cell? ⟨w2.heap.size + 1, 0, none⟩ = some (.pointer gb) := (blk_cell k3 0).trans rfl
  have hbw : Below w.heap.size w W3 := below_step (below_step (below_step HB1.out hba) hb2) hb3
  have O3 := Aside0.mk (HO.out.below (below_step (below_step hba hb2) hb3))
  have OA := Aside0.mk (hOa.below hb3)
  have OB := Aside0.mk (hOb.below hb3)
  have HBW := Aside0.mk hbw
  have C3 := Aside0.mk (Kd.C_below HC.out hbw)
  have C32 := Aside0.mk (Kd.C_below HC2.out hbw)
  clear hba hOa hOb hb2 hb3 k2 k3 K1 hW3 hbw z1
  go_wp2_with fail
  rw [HW3.out]
  clear HW3
  have HP1 : Aside0 (listO (partO T f t) = partL l f t) := ⟨partO_list HTI.out f t⟩
  have HP2 : Aside0 (listO (splitO T f).1 = partL l 0 f) := ⟨split1_list HTI.out f⟩
  have HP3 : Aside0 (listO (splitO T f).2 = partL l f n) := ⟨by have := split2_list HTI.out f; rwa [HL.out] at this⟩
  have HP4 : Aside0 (listO (replO T f t S) = replL l f t m) := ⟨repl_list HTI.out HSI.out f t⟩
  have HQ1 : Aside0 (∀ k f t, (partL l f t).length = k → k * 8 ≤ 140737488351232) := ⟨fun k f t h => by have := partL_le l f t; have := HL.out; omega⟩
  have HQ4 : Aside0 (∀ k, (replL l f t m).length = k → k * 8 ≤ 140737488351232) := ⟨fun k h => by have := replL_le l f t m; have := HL.out; have := HL2.out; omega⟩
  have HLT : Aside0 (lenO T + lenO S ≤ 2305843009213693952) := ⟨by have := HTL.out; have := HSL.out; omega⟩
  have HB5 : Aside0 (n * 8 ≤ 140737488351232) := ⟨by omega⟩
  clear d1 d1' d2 d2'
  go_region_held3 (fun W' => Below W3.heap.size W3 W' ∧ W'.cell? ⟨w1.heap.size, 0, none⟩ = some (.pointer g) ∧ W'.cell? ⟨w2.heap.size, 0, none⟩ = some (.pointer ga) ∧ W'.cell? ⟨w2.heap.size + 1, 0, none⟩ = some (.pointer gb))
    (first | exact ⟨below_drew (Below.refl _ _), x1, x2, x3⟩ | (go_split_ands; exact ⟨below_step (by assumption) hb1, pw_cell_below hb1 (by assumption), pw_cell_below hb1 (by assumption), pw_cell_below hb1 (by assumption)⟩))
    (first
      | (go_at_call 18; go_split_ands; refine (Part_int.calls g f t T _ (IsO.below (by assumption) O3.out) HL4.out).mono ?_; rintro e W' ⟨g5, rfl, hO5, hb1⟩; have O5 := Aside0.mk hO5; clear hO5)
      | (go_at_call 19; go_split_ands; with_reducible refine (Part19.calls A c n l f t _ (Kd.C_below C3.out (by assumption)) HL.out hc HA.out HB5.out).mono ?_; rintro e W' ⟨A6, k6, c6, rfl, h61, h62, h63, hC6, hb1⟩; have H61 := Aside0.mk h61; have C6 := Aside0.mk hC6; have O6 := Aside0.mk (O5.out.below hb1); clear h61 h63 hC6)
      | (go_at_call 17; go_split_ands; with_reducible refine (alike.calls g5 (partO T f t) A6 k6 c6 (partL l f t) _ O6.out HP1.out H61.out C6.out h62 (HQ1.out _ _ _ H61.out)).mono ?_; rintro e W' ⟨rfl, hb1⟩)
      | (go_at_call 19; go_split_ands; with_reducible refine (Part19.calls A c n l 0 f _ (Kd.C_below C3.out (by assumption)) HL.out hc HA.out HB5.out).mono ?_; rintro e W' ⟨A7, k7, c7, rfl, h71, h72, h73, hC7, hb1⟩; have H71 := Aside0.mk h71; have C7 := Aside0.mk hC7; clear h71 h73 hC7)
      | (go_at_call 17; go_split_ands; with_reducible refine (alike.calls ga (splitO T f).1 A7 k7 c7 (partL l 0 f) _ (IsO.below (by assumption) OA.out) HP2.out H71.out C7.out h72 (HQ1.out _ _ _ H71.out)).mono ?_; rintro e W' ⟨rfl, hb1⟩)
      | (go_at_call 19; go_split_ands; with_reducible refine (Part19.calls A c n l f n _ (Kd.C_below C3.out (by assumption)) HL.out hc HA.out HB5.out).mono ?_; rintro e W' ⟨A8, k8, c8, rfl, h81, h82, h83, hC8, hb1⟩; have H81 := Aside0.mk h81; have C8 := Aside0.mk hC8; clear h81 h83 hC8)
      | (go_at_call 17; go_split_ands; with_reducible refine (alike.calls gb (splitO T f).2 A8 k8 c8 (partL l f n) _ (IsO.below (by assumption) OB.out) HP3.out H81.out C8.out h82 (HQ1.out _ _ _ H81.out)).mono ?_; rintro e W' ⟨rfl, hb1⟩)
      | (go_at_call 11; go_split_ands; refine (Of_int.calls A2 c2 n2 m _ HL2.out (Kd.C_below C32.out (by assumption)) hc2 HN42.out).mono ?_; rintro e W' ⟨g9, rfl, hO9, hb1⟩; rw [← HS.out] at hO9; have O9 := Aside0.mk hO9; clear hO9)
      | (go_at_call 20; go_split_ands; refine (Replace_int.calls g g9 f t T S _ (IsO.below (by assumption) O3.out) O9.out HLT.out).mono ?_; rintro e W' ⟨g10, rfl, hO10, hb1⟩; have O10 := Aside0.mk hO10; clear hO10)
      | (go_at_call 21; go_split_ands; refine (Replace21.calls A c n l f t A2 c2 n2 m _ (Kd.C_below C3.out (by assumption)) HL.out hc HA.out (Kd.C_below C32.out (by assumption)) HL2.out hc2 HA2.out HB8.out HB82.out).mono ?_; rintro e W' ⟨A11, k11, c11, rfl, h111, h112, h113, hC11, hb1⟩; have H111 := Aside0.mk h111; have C11 := Aside0.mk hC11; have O11 := Aside0.mk (O10.out.below hb1); clear h111 h113 hC11)
      | (go_at_call 17; go_split_ands; with_reducible refine (alike.calls g10 (replO T f t S) A11 k11 c11 (replL l f t m) _ O11.out HP4.out H111.out C11.out h112 (HQ4.out _ H111.out)).mono ?_; rintro e W' ⟨rfl, hb1⟩)
      | (go_at_call 10; refine (awake.calls _).mono ?_; rintro e W' ⟨rfl, hb1⟩))
  have hfin : Below W3.heap.size W3 W' := by go_split_ands; assumption
  have HFIN := Aside0.mk (HBW.out.trans (hfin.mono HBW.out.size))
  go_wp2
  go_ret
  exact ⟨rfl, HFIN.out⟩

set_option maxRecDepth 100000 in
set_option maxHeartbeats 4000000 in
theorem Parts0.calls (A : Option Addr) (c n : Nat) (A2 : Option Addr) (c2 n2 : Nat) (f t : Int) (w : World) (hn : 500 < n ∨ 500 < n2) :
    Calls Try.prog 4 #[.slice A n c, .slice A2 n2 c2, .int .i64 f, .int .i64 t] w fun e w' => e = .returned (.bool true) ∧ Below w.heap.size w w' := by
  by_cases h1 : 500 < n
  · have d1 : decide ((500 : Int) < (n : Int)) = true := by simp; omega
    have d1' : decide (500 < n) = true := by simp; omega
    clear hn
    go_enter Try.func4, Try.ntmps4
    go_wp2_with fail
    refine (awake.calls _).mono ?_
    rintro e w1 ⟨rfl, hb⟩
    have HB := Aside0.mk hb
    clear hb
    go_wp2_with fail
    go_ret
    exact ⟨rfl, HB.out⟩
  · have h2 : 500 < n2 := by omega
    have d1 : decide ((500 : Int) < (n : Int)) = false := by simp; omega
    have d1' : decide (500 < n) = false := by simp; omega
    have d2 : decide ((500 : Int) < (n2 : Int)) = true := by simp; omega
    have d2' : decide (500 < n2) = true := by simp; omega
    clear hn
    go_enter Try.func4, Try.ntmps4
    go_wp2_with fail
    refine (awake.calls _).mono ?_
    rintro e w1 ⟨rfl, hb⟩
    have HB := Aside0.mk hb
    clear hb
    go_wp2_with fail
    go_ret
    exact ⟨rfl, HB.out⟩
theorem Parts.row (A : Option Addr) (c : Nat) (l : List Int) (A2 : Option Addr) (c2 : Nat) (m : List Int) (f t : Int) (w : World) (hC : D_int.C w A l.length l) (hc : l.length ≤ c) (_ : l.length * 8 ≤ 140737488351232) (hA : A = none → c = 0)
    (hC2 : D_int.C w A2 m.length m) (hc2 : m.length ≤ c2) (_ : m.length * 8 ≤ 140737488351232) (hA2 : A2 = none → c2 = 0) (_ : (Lit.int .i64 f).wf = true) (_ : (Lit.int .i64 t).wf = true) :
    Calls Try.prog 4 #[.slice A l.length c, .slice A2 m.length c2, .int .i64 f, .int .i64 t] w fun e w' => e = .returned (.bool true) ∧ Below w.heap.size w w' := by
  by_cases h : l.length ≤ 500 ∧ m.length ≤ 500
  · exact Parts1.calls A c _ l A2 c2 _ m f t w hC rfl hc hA hC2 rfl hc2 hA2 h.1 h.2
  · exact Parts0.calls A c _ A2 c2 _ f t w (by omega)

end Go.Proofs.Ytlopceimlipemaa.Rope

/- Lists of ropes in memory, and the trees that operations make. -/
namespace Go.Proofs.Ytlopceimlipemaa.Rope
open Go.RowKit Go.Proofs.YtlopceimlipemaaW.PrintWords Go.Proofs.YtlopceimlipemaaW.PrintLast Go.Proofs.YtlopceimlipemaaW.PrintMore Go.Shelf
set_option linter.unusedVariables false
set_option linter.unusedSimpArgs false

theorem stepT_list (k : Int) (T S : Option (Tr Int)) (f t : Int) : listO (stepT k T S f t) = stepL k (listO T) (listO S) f t := by
  unfold stepT stepL
  by_cases h0 : k = 0
  · rw [if_pos h0, if_pos h0, joinO_list]
  rw [if_neg h0, if_neg h0]
  by_cases h1 : k = 1
  · rw [if_pos h1, if_pos h1, joinO_list, split1_list rfl, split2_list rfl]
  rw [if_neg h1, if_neg h1]
  by_cases h2 : k = 2
  · rw [if_pos h2, if_pos h2, partO_list rfl]
  rw [if_neg h2, if_neg h2]
  by_cases h3 : k = 3
  · rw [if_pos h3, if_pos h3, repl_list rfl rfl]
  rw [if_neg h3, if_neg h3]
  by_cases h4 : k = 4
  · rw [if_pos h4, if_pos h4, buildT_list]
  rw [if_neg h4, if_neg h4, mapO_list]
theorem Tr.map_ok (f : Int → Int) : ∀ t : Tr Int, t.ok → (t.map f).ok
  | .leaf xs, h => by simp only [Tr.map, Tr.ok, List.length_map] at h ⊢; exact h
  | .fork a b, h => ⟨a.map_ok f h.1, b.map_ok f h.2.1, by rw [a.map_ht, b.map_ht]; exact h.2.2.1, by rw [a.map_ht, b.map_ht]; exact h.2.2.2⟩
theorem stepT_ok (k : Int) (T S : Option (Tr Int)) (f t : Int) (hT : okO T) (hS : okO S) : okO (stepT k T S f t) := by
  unfold stepT
  split
  · exact joinO_ok _ _ hT hS
  split
  · exact joinO_ok _ _ (splitO_ok _ _ hT).2 (splitO_ok _ _ hT).1
  split
  · exact partO_ok _ _ _ hT
  split
  · exact replO_ok _ _ _ _ hT hS
  split
  · exact buildT_ok _
  · cases T with
    | none => trivial
    | some T => exact T.map_ok _ hT
/-- A rope in memory. -/
structure Rp where
  p : Option Addr
  T : Option (Tr Int)
structure Rp.ok (W : World) (q : Rp) : Prop where
  is : IsO K_int W q.p q.T
  avl : okO q.T
  most : lenO q.T ≤ 2000
theorem Rp.ok.keep {W W' : World} {q : Rp} (h : q.ok W) (hk : KeepE 86 W W') : q.ok W' := ⟨IsO.move (K := K_int) hk h.is, h.avl, h.most⟩
structure Ropes (base : Nat) (W : World) (v : Value) (qs : List Rp) : Prop where
  row : W.ownsRow base 26 1 v qs.length (qs.map fun q => .pointer q.p)
  each : ∀ q ∈ qs, q.ok W
theorem Ropes.keep {base : Nat} {W W' : World} {v : Value} {qs : List Rp} (h : Ropes base W v qs) (h1 : KeepE 86 W W') (h2 : KeepE 26 W W') : Ropes base W' v qs :=
  ⟨own_keep h.row h2, fun q hq => (h.each q hq).keep h1⟩
theorem Ropes.at_ {base : Nat} {W : World} {v : Value} {qs : List Rp} (h : Ropes base W v qs) (h0 : 0 < qs.length) : ∃ g cap, v = .slice (some ⟨g, 0, none⟩) qs.length cap ∧ base ≤ g ∧ qs.length ≤ cap ∧ ∀ (i : Nat) (q : Rp), qs[i]? = some q → W.cell? ((⟨g, 0, none⟩ : Addr).add i) = some (.pointer q.p) := by
  rcases h.row.2 with ⟨_, h1⟩ | ⟨g, cap, cur, rfl, hb, hk, hc, _⟩
  · omega
  · exact ⟨g, cap, rfl, hb, hc, fun i q hi => h.row.cells (g := g) rfl i _ (by rw [List.getElem?_map, hi]; rfl)⟩
def lists (qs : List Rp) : List (List Int) := qs.map fun q => listO q.T
theorem step_at {base : Nat} {W : World} {v : Value} {qs : List Rp} (h : Ropes base W v qs) (h0 : 0 < qs.length) (h1 : qs.length ≤ 1000) (o : Op5) (ho : o.ok) :
    ∃ g cap, v = .slice (some ⟨g, 0, none⟩) qs.length cap ∧ ∃ T', listO T' = modelP (lists qs) o ∧ okO T' ∧ Calls Try.prog 32 #[v, .agg #[.int .u8 o.kind, .int .u8 o.rope, .int .u8 o.other, .int .i64 o.f, .int .i64 o.t]] W fun e w' => ∃ g, e = .returned (.agg #[.pointer g]) ∧ IsO K_int w' g T' ∧ Below W.heap.size W w' := by
  obtain ⟨g, cap, rfl, hg, hc, hcell⟩ := h.at_ h0
  have hp : (0 : Int) < (qs.length : Int) := by omega
  obtain ⟨i, hi⟩ := Int.eq_ofNat_of_zero_le (Int.emod_nonneg o.rope (show (qs.length : Int) ≠ 0 by omega))
  obtain ⟨j, hj⟩ := Int.eq_ofNat_of_zero_le (Int.emod_nonneg o.other (show (qs.length : Int) ≠ 0 by omega))
  have hil : i < qs.length := by have := Int.emod_lt_of_pos o.rope hp; omega
  have hjl : j < qs.length := by have := Int.emod_lt_of_pos o.other hp; omega
  obtain ⟨e1, he1⟩ : ∃ e, qs[i]? = some e := ⟨_, List.getElem?_eq_getElem hil⟩
  obtain ⟨e2, he2⟩ : ∃ e, qs[j]? = some e := ⟨_, List.getElem?_eq_getElem hjl⟩
  have k1 := h.each e1 (List.mem_of_getElem? he1)
  have k2 := h.each e2 (List.mem_of_getElem? he2)
  refine ⟨g, cap, rfl, stepT (o.kind % 6) e1.T e2.T o.f o.t, ?_, stepT_ok _ _ _ _ _ k1.avl k2.avl, ?_⟩
  · rw [stepT_list]
    unfold modelP lists
    rw [List.length_map, hi, hj]
    simp only [Int.toNat_natCast, List.getD_eq_getElem?_getD, List.getElem?_map, he1, he2, Option.map_some, Option.getD_some]
  · exact step.calls ⟨g, 0, none⟩ qs.length cap o.kind o.rope o.other o.f o.t i j e1.p e2.p e1.T e2.T W h0 hc h1 ho.k0 ho.k1 ho.r0 ho.r1 ho.o0 ho.o1 hi hj (hcell i e1 he1) (hcell j e2 he2) k1.is k2.is k1.most k2.most
theorem ropes_snoc {base : Nat} {W W2 : World} {v v' : Value} {qs : List Rp} {q : Rp} (h : Ropes base W v qs) (hq : q.ok W)
    (hrow : W2.ownsRow base 26 1 v' (qs.length + 1) ((qs.map fun q => .pointer q.p) ++ [.pointer q.p])) (hg : W.grownBy W2 v.ownBlock) : Ropes base W2 v' (qs ++ [q]) := by
  have hk : KeepE 86 W W2 := KeepE.grown hg h.row (by decide)
  refine ⟨by rw [List.length_append, List.map_append]; exact hrow, fun q' hq' => ?_⟩
  rcases List.mem_append.1 hq' with h1 | h1
  · exact (h.each q' h1).keep hk
  · obtain rfl : q' = q := by simpa using h1
    exact hq.keep hk
theorem ropes_first (base : Nat) (W : World) (q : Rp) (hb : base ≤ W.heap.size) (hq : q.ok W) : Ropes base (W.alloc (.cells #[.pointer q.p] 26)) (.slice (some ⟨W.heap.size, 0, none⟩) 1 1) [q] :=
  ⟨World.ownsRow_lit W #[.pointer q.p] 1 hb (by decide) rfl, fun q' hq' => by
    obtain rfl : q' = q := by simpa using hq'
    exact hq.keep (KeepE.below ((Below.refl _ W).alloc (Nat.le_refl _) _))⟩
/-- In a region that draws its order: an append onto a row of one's own. -/
theorem step_append_own1 {P : Program} (w : World) {ops : Array Oper} {o : Oper} {a : Act} {K : Act → World → Prop} {Q : Exit → Act → World → Prop} {E : Prop} (hgd : o.guard = none) (s x : Operand) (t : TypeId)
    (ho : o.op = .call { callee := .builtin .append, args := #[s, x], argTypes := #[t, t] })
    (base : Nat) (e : TypeId) (i : TypeInfo) (z : Value) (size bytes : Nat) (ht : P.underlying t = some (.slice e)) (hi : P.info? e = some i) (hz : i.zero = some z)
    (hsize : i.size = size) (hby : i.bytes = bytes) (hzs : z.cells.size = size) (hsz : 0 < size)
    (v : Value) (n : Nat) (xs : List Value) (hs : a.eval s = v) (hown : w.ownsRow base e size v n xs)
    (ad : Addr) (m c : Nat) (news : List Value) (hx : a.eval x = .slice (some ad) m c) (hl : news.length = m * size) (hnews : ∀ j u, news[j]? = some u → w.cell? (ad.add j) = some u) (h1 : ∀ u ∈ news, u.oneCell' = true)
    (h63 : n + m ≤ maxLen) (hbytes : (n + m) * bytes ≤ 140737488355328) (hbase : base ≤ w.heap.size)
    (h : ∀ v' w', w'.ownsRow base e size v' (n + m) (xs ++ news) → w.grownBy w' v.ownBlock → K (a.put o.dst v') w') :
    if Region.wanted o (yielded ops a.tmps) = true then Oper.wp P o a w K Q else E := by
  have hw : Region.wanted o (yielded ops a.tmps) = true := by simp [Region.wanted, hgd]
  rw [if_pos hw]
  exact wp_append_own w s x t ho base e i z size bytes ht hi hz hsize hby hzs hsz v n xs hs hown ad m c news hx hl hnews h1 h63 hbytes hbase fun v' w' h2 h3 _ => h v' w' h2 h3
theorem info_ropes : (Try.prog.info? 26).map (fun i => (i.zero, i.size, i.bytes)) = some (some (.agg #[.pointer none]), 1, 8) := by kernel_rfl

end Go.Proofs.Ytlopceimlipemaa.Rope
