/- Ropes: what joining, splitting and building answer, without memory. -/
import Derived.Test.YtlopceimlipemaaRBase
namespace Go.Proofs.Ytlopceimlipemaa.Rope
open Go.RowKit Go.Proofs.YtlopceimlipemaaW.PrintWords Go.Proofs.YtlopceimlipemaaW.PrintLast Go.Proofs.YtlopceimlipemaaW.PrintMore
set_option linter.unusedVariables false
set_option linter.unusedSimpArgs false

theorem Tr.bal_list {α : Type} (a b : Tr α) : (Tr.bal a b).list = a.list ++ b.list := by
  unfold Tr.bal
  split
  · cases a with
    | leaf xs => rfl
    | fork al ar =>
      simp only
      split
      · simp [Tr.list]
      · cases ar <;> simp [Tr.list]
  · split
    · cases b with
      | leaf xs => rfl
      | fork bl br =>
        simp only
        split
        · simp [Tr.list]
        · cases bl <;> simp [Tr.list]
    · rfl
/-- Two trees, one behind the other. -/
def Tr.join {α : Type} (a b : Tr α) : Tr α :=
  if a.ht = 1 ∧ b.ht = 1 ∧ a.len + b.len ≤ 16 then .leaf (a.list ++ b.list)
  else if b.ht + 1 < a.ht then (match a with
    | .fork al ar => Tr.bal al (Tr.join ar b)
    | .leaf xs => .fork (.leaf xs) b)
  else if a.ht + 1 < b.ht then (match b with
    | .fork bl br => Tr.bal (Tr.join a bl) br
    | .leaf xs => .fork a (.leaf xs))
  else .fork a b
termination_by SizeOf.sizeOf a + SizeOf.sizeOf b
theorem Tr.join_list {α : Type} (a b : Tr α) : (Tr.join a b).list = a.list ++ b.list := by
  induction hn : SizeOf.sizeOf a + SizeOf.sizeOf b using Nat.strongRecOn generalizing a b with
  | _ n ih =>
    subst hn
    rw [Tr.join.eq_def]
    split
    · rfl
    split
    · cases a with
      | leaf xs => rfl
      | fork al ar => simp only [Tr.bal_list, Tr.list, List.append_assoc]; rw [ih _ (by simp; omega) ar b rfl]
    split
    · cases b with
      | leaf xs => rfl
      | fork bl br => simp only [Tr.bal_list, Tr.list]; rw [ih _ (by simp; omega) a bl rfl, List.append_assoc]
    · rfl
theorem Tr.join_len {α : Type} (a b : Tr α) : (Tr.join a b).len = a.len + b.len := by
  rw [← Tr.list_len, Tr.join_list, List.length_append, Tr.list_len, Tr.list_len]
def joinO {α : Type} : Option (Tr α) → Option (Tr α) → Option (Tr α)
  | none, b => b
  | some a, none => some a
  | some a, some b => some (Tr.join a b)
def lenO {α : Type} : Option (Tr α) → Nat
  | none => 0
  | some t => t.len
def listO {α : Type} : Option (Tr α) → List α
  | none => []
  | some t => t.list
theorem joinO_list {α : Type} : ∀ a b : Option (Tr α), listO (joinO a b) = listO a ++ listO b
  | none, b => by simp [joinO, listO]
  | some a, none => by simp [joinO, listO]
  | some a, some b => Tr.join_list a b
theorem listO_len {α : Type} : ∀ a : Option (Tr α), (listO a).length = lenO a
  | none => rfl
  | some t => t.list_len
theorem joinO_len {α : Type} (a b : Option (Tr α)) : lenO (joinO a b) = lenO a + lenO b := by rw [← listO_len, joinO_list, List.length_append, listO_len, listO_len]
theorem add_off (b o k : Nat) : (⟨b, o, none⟩ : Addr).add k = ⟨b, o + k, none⟩ := by
  unfold Addr.add
  split <;> simp_all
/-- A slice of two slices. -/
theorem two_C {α : Type} {d : Kd α} {e : Nat} {W : World} {b : Nat} {t : TypeId} {A1 A2 : Option Addr} {c1 c2 : Nat} {xs ys : List α} (h : W.heap[b]? = some (.cells #[.slice A1 xs.length c1, .slice A2 ys.length c2] t (0, 0))) (h1 : xs.length ≤ c1) (h2 : ys.length ≤ c2)
    (hx : d.C W A1 xs.length xs) (hy : d.C W A2 ys.length ys) : (Kd.slice e d).C W (some ⟨b, 0, none⟩) [xs, ys].length [xs, ys] := by
  refine ⟨rfl, by simp, fun _ => ⟨_, rfl, fun j p hj => ?_⟩⟩
  match j, hj with
  | 0, hj =>
    obtain rfl : xs = p := by simpa using hj
    refine ⟨[.slice A1 xs.length c1], rfl, ⟨A1, c1, rfl, h1, hx⟩, fun i u hu => ?_⟩
    match i, hu with
    | 0, hu =>
      obtain rfl : Value.slice A1 xs.length c1 = u := by simpa using hu
      exact (blk_cell h 0).trans rfl
  | 1, hj =>
    obtain rfl : ys = p := by simpa using hj
    refine ⟨[.slice A2 ys.length c2], rfl, ⟨A2, c2, rfl, h2, hy⟩, fun i u hu => ?_⟩
    match i, hu with
    | 0, hu =>
      obtain rfl : Value.slice A2 ys.length c2 = u := by simpa using hu
      exact (blk_cell h 1).trans rfl

def leafO {α : Type} (xs : List α) : Option (Tr α) := if xs.length = 0 then none else some (.leaf xs)
theorem leafO_list {α : Type} (xs : List α) : listO (leafO xs) = xs := by
  unfold leafO
  split
  · rename_i h; rw [List.length_eq_zero_iff.1 h]; rfl
  · rfl
/-- The trees with the first n elements, and with the others. -/
def Tr.split {α : Type} : Tr α → Int → Option (Tr α) × Option (Tr α)
  | .leaf xs, n => if n ≤ 0 then (none, some (.leaf xs)) else if (xs.length : Int) ≤ n then (some (.leaf xs), none) else (leafO (xs.take n.toNat), leafO (xs.drop n.toNat))
  | .fork a b, n => if n ≤ 0 then (none, some (.fork a b)) else if ((a.len + b.len : Nat) : Int) ≤ n then (some (.fork a b), none)
    else if n ≤ (a.len : Int) then ((a.split n).1, joinO (a.split n).2 (some b)) else (joinO (some a) (b.split (n - a.len)).1, (b.split (n - a.len)).2)
theorem Tr.split_list {α : Type} : ∀ (t : Tr α) (n : Int), listO (t.split n).1 = t.list.take n.toNat ∧ listO (t.split n).2 = t.list.drop n.toNat
  | .leaf xs, n => by
    unfold Tr.split
    by_cases h : n ≤ 0
    · rw [if_pos h, show n.toNat = 0 by omega]; simp [listO, Tr.list]
    · rw [if_neg h]
      by_cases h2 : (xs.length : Int) ≤ n
      · rw [if_pos h2]; simp only [listO, Tr.list]
        rw [List.take_of_length_le (by omega), List.drop_of_length_le (by omega)]; exact ⟨rfl, rfl⟩
      · rw [if_neg h2]; exact ⟨leafO_list _, leafO_list _⟩
  | .fork a b, n => by
    have hl := a.list_len
    have hb := b.list_len
    unfold Tr.split
    by_cases h : n ≤ 0
    · rw [if_pos h, show n.toNat = 0 by omega]; simp [listO, Tr.list]
    · rw [if_neg h]
      by_cases h2 : ((a.len + b.len : Nat) : Int) ≤ n
      · rw [if_pos h2]; simp only [listO, Tr.list]
        rw [List.take_of_length_le (by simp only [List.length_append]; omega), List.drop_of_length_le (by simp only [List.length_append]; omega)]; exact ⟨rfl, rfl⟩
      · rw [if_neg h2]
        by_cases h3 : n ≤ (a.len : Int)
        · obtain ⟨i1, i2⟩ := Tr.split_list a n
          rw [if_pos h3]
          simp only [joinO_list, i1, i2, Tr.list]
          rw [List.take_append_of_le_length (by omega), List.drop_append_of_le_length (by omega)]
          exact ⟨rfl, rfl⟩
        · obtain ⟨i1, i2⟩ := Tr.split_list b (n - a.len)
          rw [if_neg h3]
          simp only [joinO_list, i1, i2, Tr.list]
          rw [List.take_append, List.drop_append]
          have e : (n - (a.len : Int)).toNat = n.toNat - a.list.length := by omega
          rw [e, List.take_of_length_le (l := a.list) (by omega), List.drop_of_length_le (l := a.list) (by omega)]
          exact ⟨rfl, rfl⟩
def splitO {α : Type} : Option (Tr α) → Int → Option (Tr α) × Option (Tr α)
  | none, _ => (none, none)
  | some t, n => t.split n
theorem splitO_list {α : Type} : ∀ (t : Option (Tr α)) (n : Int), listO (splitO t n).1 = (listO t).take n.toNat ∧ listO (splitO t n).2 = (listO t).drop n.toNat
  | none, n => by simp [splitO, listO]
  | some t, n => t.split_list n
theorem splitO_len {α : Type} (t : Option (Tr α)) (n : Int) : lenO (splitO t n).1 + lenO (splitO t n).2 = lenO t := by
  obtain ⟨h1, h2⟩ := splitO_list t n
  rw [← listO_len, ← listO_len, ← listO_len, h1, h2, ← List.length_append, List.take_append_drop]
theorem Tr.split_len {α : Type} (t : Tr α) (n : Int) : lenO (t.split n).1 + lenO (t.split n).2 = t.len := splitO_len (some t) n

/-- The tree of a list. -/
def buildT {α : Type} (l : List α) : Option (Tr α) :=
  if l.length ≤ 16 then leafO l else joinO (buildT (l.take (((l.length + 15) / 16 + 1) / 2 * 16))) (buildT (l.drop (((l.length + 15) / 16 + 1) / 2 * 16)))
termination_by l.length
decreasing_by
  · rw [List.length_take]; omega
  · rw [List.length_drop]; omega
theorem buildT_list {α : Type} (l : List α) : listO (buildT l) = l := by
  induction hn : l.length using Nat.strongRecOn generalizing l with
  | _ n ih =>
    subst hn
    rw [buildT.eq_def]
    by_cases h : l.length ≤ 16
    · rw [if_pos h]; exact leafO_list l
    · rw [if_neg h, joinO_list, ih _ (by rw [List.length_take]; omega) _ rfl, ih _ (by rw [List.length_drop]; omega) _ rfl, List.take_append_drop]

end Go.Proofs.Ytlopceimlipemaa.Rope
