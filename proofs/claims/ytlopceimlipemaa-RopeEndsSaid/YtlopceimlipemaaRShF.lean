/- Ropes that are joined to themselves, without memory. -/
import Derived.Test.YtlopceimlipemaaRMore
namespace Go.Proofs.Ytlopceimlipemaa.Rope
open Go.RowKit Go.Proofs.YtlopceimlipemaaW.PrintWords Go.Proofs.YtlopceimlipemaaW.PrintLast Go.Proofs.YtlopceimlipemaaW.PrintMore
set_option linter.unusedVariables false
set_option linter.unusedSimpArgs false
variable {α : Type}
def iterJ (T : Option (Tr α)) : Nat → Option (Tr α)
  | 0 => T
  | n + 1 => joinO (iterJ T n) (iterJ T n)
theorem iterJ_len (T : Option (Tr α)) : ∀ n, lenO (iterJ T n) = lenO T * 2 ^ n
  | 0 => by simp [iterJ]
  | n + 1 => by simp only [iterJ, joinO_len, iterJ_len T n]; rw [Nat.pow_succ, ← Nat.mul_assoc]; omega
theorem iterJ_at (T : Option (Tr α)) (h : 0 < lenO T) : ∀ (n i : Nat), i < lenO T * 2 ^ n → (listO (iterJ T n))[i]? = (listO T)[i % lenO T]?
  | 0, i, hi => by rw [Nat.pow_zero, Nat.mul_one] at hi; rw [Nat.mod_eq_of_lt hi]; rfl
  | n + 1, i, hi => by
    have hl := iterJ_len T n
    have hll : (listO (iterJ T n)).length = lenO T * 2 ^ n := by rw [listO_len, hl]
    simp only [iterJ, joinO_list]
    by_cases hlt : i < lenO T * 2 ^ n
    · rw [List.getElem?_append_left (by omega), iterJ_at T h n i hlt]
    · rw [List.getElem?_append_right (by omega), hll, iterJ_at T h n (i - lenO T * 2 ^ n) (by rw [Nat.pow_succ, ← Nat.mul_assoc] at hi; omega)]
      congr 1
      conv => rhs; rw [show i = (i - lenO T * 2 ^ n) + lenO T * 2 ^ n by omega]
      rw [Nat.add_mul_mod_self_left]
theorem Tr.join_ht_self (a : Tr α) : (Tr.join a a).ht ≤ a.ht + 1 := by
  rw [Tr.join.eq_def]
  split
  · simp [Tr.ht]
  · rw [if_neg (by omega), if_neg (by omega)]; simp [Tr.ht]
theorem iterJ_ht (T : Option (Tr α)) : ∀ n, htO (iterJ T n) ≤ htO T + n
  | 0 => Nat.le_refl _
  | n + 1 => by
    have ih := iterJ_ht T n
    simp only [iterJ]
    cases h : iterJ T n with
    | none => simp [joinO, htO]
    | some t => rw [h] at ih; have := Tr.join_ht_self t; simp only [joinO, htO] at ih ⊢; omega
theorem leafO_ht (l : List α) : htO (leafO l) ≤ 1 := by unfold leafO; split <;> simp [htO, Tr.ht]
theorem joinO_leaf_ht (a b : List α) : htO (joinO (leafO a) (leafO b)) ≤ 2 := by
  unfold leafO
  split <;> split <;> simp only [joinO, htO, Tr.ht]
  · omega
  · omega
  · omega
  · rw [Tr.join.eq_def]
    split
    · simp [Tr.ht]
    · rw [if_neg (by simp [Tr.ht]), if_neg (by simp [Tr.ht])]; simp [Tr.ht]
theorem buildT_ht (l : List α) (h : l.length ≤ 20) : htO (buildT l) ≤ 2 := by
  rw [buildT.eq_def]
  split
  · have := leafO_ht l; omega
  · rw [buildT.eq_def, if_pos (by simp; omega), buildT.eq_def (l.drop _), if_pos (by simp; omega)]
    exact joinO_leaf_ht _ _
/-- One element's part. -/
theorem partO_one (S : Option (Tr α)) (i : Nat) (h : i < lenO S) (x : α) (hx : (listO S)[i]? = some x) : listO (partO S (i : Int) ((i : Int) + 1)) = [x] := by
  have e1 : hiB (lenO S) (i : Int) ((i : Int) + 1) = ((i + 1 : Nat) : Int) := by unfold hiB mn mx; repeat' split; all_goals omega
  have e2 : loB (lenO S) (i : Int) = (i : Int) := by unfold loB mn mx; repeat' split; all_goals omega
  simp only [partO, e1, e2, (splitO_list _ _).1, (splitO_list _ _).2, Int.toNat_natCast]
  obtain ⟨hl, hx⟩ := List.getElem?_eq_some_iff.1 hx
  rw [List.drop_take, show i + 1 - i = 1 by omega, List.drop_eq_getElem_cons hl, hx]
  rfl

theorem sh_nums (n q m : Nat) (at_ : Int) (hm : m = n * 2 ^ q) (hm1 : 1 ≤ m) (hm2 : m ≤ 21990232555520) :
    wrap64 ((n : Int) * 2 ^ q) = (m : Int) ∧ IntKind.u64.wrap (m : Int) = (m : Int) ∧ ((m : Int) == 0) = false ∧ ¬ (m : Int) = 0 := by
  have hmi : (n : Int) * 2 ^ q = (m : Int) := by rw [hm, Int.natCast_mul, Int.natCast_pow]; rfl
  rw [hmi]
  clear hmi hm
  refine ⟨by unfold wrap64; omega, IntWalk.u64_in _ (by omega), by simp; omega, by omega⟩
theorem sh_ix (m : Nat) (at_ : Int) (hm1 : 1 ≤ m) (hm2 : m ≤ 21990232555520) : ∃ i : Nat, at_ % (m : Int) = (i : Int) ∧ i < m ∧ wrap64 (i : Int) = (i : Int) ∧ wrap64 ((i : Int) + 1) = (i : Int) + 1 := by
  have h1 := Int.emod_nonneg at_ (show (m : Int) ≠ 0 by omega)
  have h2 := Int.emod_lt_of_pos at_ (show (0 : Int) < m by omega)
  generalize at_ % (m : Int) = z at h1 h2 ⊢
  obtain ⟨i, rfl⟩ := Int.eq_ofNat_of_zero_le h1
  exact ⟨i, rfl, by omega, by unfold wrap64; omega, by unfold wrap64; omega⟩
structure ShF (l : List α) (T S : Option (Tr α)) (n q m i : Nat) (x : α) : Prop where
  len : lenO S = m
  elt : (listO S)[i]? = some x
  part : listO (partO S (i : Int) ((i : Int) + 1)) = [x]
  a : lenO (splitO S (i : Int)).1 = i
  b : lenO (splitO S (i : Int)).2 = m - i
  ht : htO S ≤ 2 + q
  org : l[i % n]? = some x
theorem sh_facts (l : List α) (T S : Option (Tr α)) (n q m i : Nat) (hT : T = buildT l) (hn : n = l.length) (h1 : 1 ≤ n) (h2 : n ≤ 20) (hS : S = iterJ T q) (hm : m = n * 2 ^ q) (hi : i < m) : ∃ x, ShF l T S n q m i x := by
  have hTl : lenO T = n := by rw [hT, ← listO_len, buildT_list, hn]
  have hSl : lenO S = m := by rw [hS, iterJ_len, hTl, hm]
  obtain ⟨x, hx⟩ : ∃ x, l[i % n]? = some x := ⟨_, List.getElem?_eq_getElem (by rw [← hn]; exact Nat.mod_lt _ h1)⟩
  have hSx : (listO S)[i]? = some x := by
    rw [hS, iterJ_at T (by rw [hTl]; exact h1) q i (by rw [hTl, ← hm]; exact hi), hTl, show listO T = l by rw [hT, buildT_list]]
    exact hx
  have hA : lenO (splitO S (i : Int)).1 = i := by
    rw [← listO_len, (splitO_list _ _).1, List.length_take, listO_len, hSl, Int.toNat_natCast]
    exact Nat.min_eq_left (Nat.le_of_lt hi)
  refine ⟨x, hSl, hSx, partO_one S i (by rw [hSl]; exact hi) x hSx, hA, ?_, ?_, hx⟩
  · have := splitO_len S (i : Int)
    rw [hA, hSl] at this
    clear hm hS hSx hx hA
    omega
  · have a1 := iterJ_ht T q
    have a2 := buildT_ht l (by rw [← hn]; exact h2)
    rw [← hT] at a2
    rw [← hS] at a1
    clear hm hS hSx hx hA
    omega

end Go.Proofs.Ytlopceimlipemaa.Rope
