/- What an argument's reading says, kind by kind: the value that it is, with its own bulk. -/
import Derived.Test.YtjhjhhibbmligaaRows
import Derived.Test.YtjhjhhibbmligaaMWWords
import Derived.ProofKit
import Derived.OpenShut
import Derived.ShutString
import Derived.ChangeOld
import Derived.Below
import Derived.SizedLaws
import Derived.Deep.CondSized
import Derived.Deep.Slices
namespace Go.Proofs.Ytjhjhhibbmligaa.Opn
open Go.RowKit Go.Proofs.YtjhjhhibbmligaaW.PrintWords
set_option linter.unusedVariables false
set_option linter.unusedSimpArgs false
def OpF (P : Program) (n : Nat) (t : TypeId) {α : Type} (d : Kd α) (bk : α → Nat) (Q : α → Prop) : Prop :=
  ∀ {H : Type} (enc : TypeId × Value → H) (w : World) (base : Nat) (spare : Nat → Bool) (held : Bool) (cs : List Value) (x : DataW H × List MemPlace),
    DataW.trod enc P w base spare held n t cs = some x → ∃ a, d.K w a cs ∧ bk a ≤ Rows.uptoBulk x.1 ∧ Q a
theorem op_int {P : Program} {n : Nat} {t : TypeId} {k : IntKind} (ht : P.underlying t = some (.int k)) : OpF P n t (Kd.int k) (fun _ => 1) (fun a => (Lit.int k a).wf = true) := by
  intro H enc w base spare held cs x h; obtain ⟨m, rfl, rfl, hw⟩ := DataW.trod_int ht h; exact ⟨m, rfl, by simp [Rows.uptoBulk], hw⟩
theorem op_string {P : Program} {n : Nat} {t : TypeId} (ht : P.underlying t = some .string) : OpF P n t Kd.string (fun s => s.size + 1) (fun _ => True) := by
  intro H enc w base spare held cs x h; obtain ⟨s, rfl, rfl, _⟩ := DataW.trod_string ht h; refine ⟨s, rfl, ?_, trivial⟩
  have e : s.data.toList.length = s.size := by rw [Array.length_toList]; rfl
  show s.size + 1 ≤ s.data.toList.length + 1
  omega
def bkL {α : Type} (bk : α → Nat) : List α → Nat
  | [] => 0
  | a :: r => bk a + bkL bk r
theorem pick {P : Program} {n : Nat} {e : TypeId} {α : Type} {d : Kd α} {bk : α → Nat} {Q : α → Prop} (ho : OpF P n e d bk Q) {H : Type} {enc : TypeId × Value → H} {w : World} {base : Nat} {spare : Nat → Bool} {held : Bool} :
    ∀ (els : List (DataW H × List MemPlace)) (f : Nat → Option (List Value)), (∀ i, i < els.length → (f i).bind (DataW.trod enc P w base spare held n e) = els[i]?) →
      ∃ l : List α, l.length = els.length ∧ bkL bk l ≤ Rows.uptoBulkAll (els.map (·.1)) ∧ (∀ a ∈ l, Q a) ∧ ∀ (j : Nat) (p : α), l[j]? = some p → ∃ c, f j = some c ∧ d.K w p c
  | [], _, _ => ⟨[], rfl, by simp [bkL], by simp, by simp⟩
  | y :: r, f, h => by
    have h0 := h 0 (by simp); simp only [List.getElem?_cons_zero] at h0; obtain ⟨c, hc, hr⟩ := Option.bind_eq_some_iff.1 h0; obtain ⟨a, ka, ba, qa⟩ := ho enc w base spare held c y hr; obtain ⟨l, hl, hb, hq, hk⟩ := pick ho r (fun i => f (i + 1)) (fun i hi => by have := h (i + 1) (by simpa using hi); simpa using this); refine ⟨a :: l, by simp [hl], by simp only [bkL, List.map_cons, Rows.uptoBulkAll]; omega, ?_, ?_⟩
    · intro z hz
      rcases List.mem_cons.1 hz with rfl | hz
      · exact qa
      · exact hq z hz
    · intro j p hj
      cases j with
      | zero => simp only [List.getElem?_cons_zero, Option.some.injEq] at hj; subst hj; exact ⟨c, hc, ka⟩
      | succ j => exact hk j p (by simpa using hj)
theorem slice_at {P : Program} {n : Nat} {t e : TypeId} {α : Type} {d : Kd α} {bk : α → Nat} {Q : α → Prop} (ho : OpF P n e d bk Q) (ht : P.underlying t = some (.slice e)) (hs : P.cellsOf e = d.sz)
    {H : Type} {enc : TypeId × Value → H} {w : World} {base : Nat} {spare : Nat → Bool} {held : Bool} {cs : List Value} {x : DataW H × List MemPlace} (h : DataW.trod enc P w base spare held (n + 1) t cs = some x) :
    ∃ (l : List α) (A : Option Addr) (c : Nat), cs = [.slice A l.length c] ∧ l.length ≤ c ∧ d.C w A l.length l ∧ bkL bk l + 1 ≤ Rows.uptoBulk x.1 ∧ (∀ a ∈ l, Q a) := by
  rcases DataW.trod_slice ht h with ⟨rfl, rfl⟩ | ⟨a, len, cap, elems, rest, n', hn, rfl, rfl, hb, hl, hm, hlen, hel, hsp, hns⟩
  · exact ⟨[], none, 0, rfl, by simp, Kd.C_nil d w, by simp [bkL, Rows.uptoBulk], by simp⟩
  · obtain rfl : n' = n := by omega
    obtain ⟨l, h1, h2, h3, h4⟩ := pick ho elems (fun i => w.cells? base (a.add (i * P.cellsOf e)) (P.cellsOf e)) (fun i hi => hel i (by omega)); refine ⟨l, some a, cap, by rw [h1, hlen], by omega, ⟨rfl, by simp [maxLen] at hm; omega, fun _ => ⟨a, rfl, fun j p hj => ?_⟩⟩, by simp only [Rows.uptoBulk]; omega, h3⟩; obtain ⟨c, hc, hk⟩ := h4 j p hj; obtain ⟨_, hcl, hcc⟩ := World.cells?_some hc; refine ⟨c, d.K_len hk, hk, fun i u hu => ?_⟩
    have hi : i < c.length := by
      rcases Nat.lt_or_ge i c.length with h | h
      · exact h
      · rw [List.getElem?_eq_none h] at hu; cases hu
    have := hcc i (by omega); rw [Go.Deep.add_add, hs] at this; rw [this]; exact hu
end Go.Proofs.Ytjhjhhibbmligaa.Opn
