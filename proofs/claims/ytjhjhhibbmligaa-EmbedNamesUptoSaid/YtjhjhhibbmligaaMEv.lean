/- A function that counts its rounds has a value when all round numbers from some one on give it. -/
import Derived.Test.YtjhjhhibbmligaaMWWords
import Derived.Test.YtjhjhhibbmligaaMWMore
import Derived.Laws.Strings
namespace Go.Proofs.Ytjhjhhibbmligaa.Evs
open Go.RowKit Go.Proofs.YtjhjhhibbmligaaW.PrintWords Go.Proofs.YtjhjhhibbmligaaW.PrintLast Go.Proofs.YtjhjhhibbmligaaW.PrintMore
set_option linter.unusedVariables false
set_option linter.unusedSimpArgs false
def Evt {α : Type} (f : Nat → Option α) (a : α) : Prop := ∃ m, ∀ k, m ≤ k → f k = some a
theorem Evt.const {α : Type} (a : α) : Evt (fun _ => some a) a := ⟨0, fun _ _ => rfl⟩
theorem Evt.succ {α : Type} {f : Nat → Option α} {a : α} (h : Evt (fun k => f (k + 1)) a) : Evt f a := by
  obtain ⟨m, hm⟩ := h
  exact ⟨m + 1, fun k hk => by
    obtain ⟨j, rfl⟩ : ∃ j, k = j + 1 := ⟨k - 1, by omega⟩
    exact hm j (by omega)⟩
theorem Evt.bind {α β : Type} {f : Nat → Option α} {g : Nat → α → Option β} {a : α} {b : β} (h : Evt f a) (h2 : Evt (fun k => g k a) b) : Evt (fun k => (f k).bind (g k)) b := by
  obtain ⟨m, hm⟩ := h; obtain ⟨m2, hm2⟩ := h2; exact ⟨max m m2, fun k hk => by show (f k).bind (g k) = some b; rw [hm k (by omega)]; exact hm2 k (by omega)⟩
theorem Evt.map {α β : Type} {f : Nat → Option α} {g : α → β} {a : α} (h : Evt f a) : Evt (fun k => (f k).map g) (g a) := by
  obtain ⟨m, hm⟩ := h; exact ⟨m, fun k hk => by show (f k).map g = some (g a); rw [hm k hk]; rfl⟩
theorem Evt.get {α : Type} {f : Nat → Option α} {a : α} (h : Evt f a) : ∃ k, f k = some a := by
  obtain ⟨m, hm⟩ := h; exact ⟨m, hm m (Nat.le_refl _)⟩
theorem Evt.eq {α : Type} {f : Nat → Option α} {a b : α} (h : Evt f a) (e : a = b) : Evt f b := e ▸ h
theorem Evt.ite {α : Type} {c : Prop} [Decidable c] {f g : Nat → Option α} {a b : α} (h : c → Evt f a) (h2 : ¬ c → Evt g b) : Evt (fun k => if c then f k else g k) (if c then a else b) := by
  by_cases hc : c
  · simp only [if_pos hc]; exact h hc
  · simp only [if_neg hc]; exact h2 hc
theorem Evt.uniq {α : Type} {f : Nat → Option α} {a b : α} (h : Evt f a) (h2 : Evt f b) : a = b := by
  obtain ⟨m, hm⟩ := h; obtain ⟨m2, hm2⟩ := h2; have := hm (max m m2) (by omega); rw [hm2 (max m m2) (by omega)] at this; exact (Option.some.inj this).symm
theorem Evt.of {α : Type} {f : Nat → Option α} {a : α} (hm : ∀ k, LeO (f k) (f (k + 1))) {k : Nat} (h : f k = some a) : Evt f a := by
  refine ⟨k, fun j hj => ?_⟩
  induction hj with
  | refl => exact h
  | step _ ih => exact hm _ _ ih
theorem wrap64_id {n : Int} (h0 : -9223372036854775808 ≤ n) (h1 : n ≤ 9223372036854775807) : wrap64 n = n := by
  unfold wrap64; omega
theorem mid {α : Type} {xs : List α} {n : Nat} {x : α} {r : List α} (h : xs.drop n = x :: r) (hb : xs.length ≤ 1099511627776) :
    (n : Int) < (xs.length : Int) ∧ (0 : Int) ≤ (n : Int) ∧ (∀ z, xs.getD (n : Int).toNat z = x) ∧ xs.drop (n + 1) = r ∧ wrap64 ((n : Int) + 1) = ((n + 1 : Nat) : Int) := by
  have hl : (xs.drop n).length = r.length + 1 := by rw [h]; rfl
  rw [List.length_drop] at hl
  have hd : xs.drop (n + 1) = r := by
    rw [← List.drop_drop, h]; rfl
  have hg : xs[n]? = some x := by
    have := congrArg (fun l : List α => l[0]?) h
    simpa using this
  refine ⟨by omega, by omega, fun z => ?_, hd, by rw [wrap64_id (by omega) (by omega)]; omega⟩; rw [Int.toNat_natCast, List.getD_eq_getElem?_getD, hg]; rfl
theorem stop {α : Type} {xs : List α} {n : Nat} (h : xs.drop n = []) : ¬ (n : Int) < (xs.length : Int) := by
  have := List.drop_eq_nil_iff.1 h
  omega
theorem size_len (s : ByteArray) : s.size = s.data.toList.length := (data_length s).symm
theorem toList_data (s : ByteArray) : s.toList = s.data.toList := Go.ByteArray.toList_eq s
theorem bt_mid {s : ByteArray} {n : Nat} {x : UInt8} {r : List UInt8} (h : s.data.toList.drop n = x :: r) : bt s (n : Int) = (x.toNat : Int) := by
  have hg : s.data.toList[n]? = some x := by
    have := congrArg (fun l : List UInt8 => l[0]?) h
    simpa using this
  have hl : n < s.data.toList.length := by
    rcases Nat.lt_or_ge n s.data.toList.length with h' | h'
    · exact h'
    · rw [List.getElem?_eq_none h'] at hg; cases hg
  have hs : n < s.size := by rw [size_len]; exact hl
  have e : s[n]'hs = x := by
    have : s.data.toList[n]'hl = x := by
      have := List.getElem?_eq_getElem hl; rw [hg] at this; exact (Option.some.inj this).symm
    rw [← this]; simp; rfl
  unfold bt; rw [dif_pos (show (n : Int).toNat < s.size by simpa using hs)]; simp only [Int.toNat_natCast, e]
theorem size_mid {s : ByteArray} {n : Nat} {x : UInt8} {r : List UInt8} (h : s.data.toList.drop n = x :: r) (hb : s.size ≤ 1099511627776) :
    (n : Int) < (s.size : Int) ∧ (0 : Int) ≤ (n : Int) ∧ bt s (n : Int) = (x.toNat : Int) ∧ s.data.toList.drop (n + 1) = r ∧ wrap64 ((n : Int) + 1) = ((n + 1 : Nat) : Int) := by
  have m := mid h (by rw [← size_len]; exact hb); rw [← size_len] at m; exact ⟨m.1, m.2.1, bt_mid h, m.2.2.2.1, m.2.2.2.2⟩
theorem size_stop {s : ByteArray} {n : Nat} (h : s.data.toList.drop n = []) : ¬ (n : Int) < (s.size : Int) := by
  rw [size_len]; exact stop h
theorem ba_ext {a b : ByteArray} (h : a.data.toList = b.data.toList) : a = b := by
  cases a; cases b; simp at h; simp [h]
end Go.Proofs.Ytjhjhhibbmligaa.Evs
