/- What a reading of an expression says: the expression that it is, of no more bulk than the reading. -/
import Derived.Test.YtdbjjaodkapikaaHOpen
import Derived.Test.YtdbjjaodkapikaaHTEx0
namespace Go.Proofs.Ytdbjjaodkapikaa.TE
open Go.RowKit Go.Proofs.YtdbjjaodkapikaaW.PrintWords Go.Proofs.Ytdbjjaodkapikaa.Opn
set_option linter.unusedVariables false
set_option linter.unusedSimpArgs false
mutual
def bk42 : S42 → Nat
  | ⟨_, t, ks⟩ => t.size + 4 + bk42s ks
def bk42s : List S42 → Nat
  | [] => 0
  | x :: r => bk42 x + bk42s r
end
mutual
def ok42 : S42 → Prop
  | ⟨k, _, ks⟩ => (Lit.int .i64 k).wf = true ∧ ok42s ks
def ok42s : List S42 → Prop
  | [] => True
  | x :: r => ok42 x ∧ ok42s r
end
theorem bk42s_eq : ∀ l, bkL bk42 l = bk42s l
  | [] => by simp [bkL, bk42s]
  | x :: r => by simp [bkL, bk42s, bk42s_eq r]
theorem ok42s_of : ∀ l, (∀ a ∈ l, ok42 a) → ok42s l
  | [], _ => by simp [ok42s]
  | x :: r, h => by
    simp only [ok42s]; exact ⟨h x List.mem_cons_self, ok42s_of r fun a ha => h a (List.mem_cons_of_mem _ ha)⟩
theorem cells42 : Try.prog.cellsOf 42 = 3 := by kernel_rfl
theorem len3 {α : Type} {l : List α} (h : l.length = 3) : ∃ a b c, l = [a, b, c] := by
  match l, h with
  | [a, b, c], _ => exact ⟨a, b, c, rfl⟩
theorem trod0 {H : Type} {enc : TypeId × Value → H} {P : Program} {w : World} {base : Nat} {spare : Nat → Bool} {held : Bool} {t : TypeId} {cs : List Value} {x : DataW H × List MemPlace} (h : DataW.trod enc P w base spare held 0 t cs = some x) : False := by
  simp [DataW.trod] at h
theorem op42 : ∀ n m, m ≤ n → OpF Try.prog m 42 k42 bk42 ok42 := by
  intro n
  induction n with
  | zero =>
    intro m hm H enc w base spare held cs x h
    obtain rfl : m = 0 := by omega
    exact (trod0 h).elim
  | succ n ih =>
    intro m hm H enc w base spare held cs x h; obtain ⟨xs, q, rfl, rfl, hcl, hxl, hf⟩ := DataW.trod_struct Try.underlying42 h; obtain ⟨x0, x1, x2, rfl⟩ := len3 hxl; obtain ⟨c0, c1, c2, rfl⟩ := len3 (hcl.trans cells42)
    have z3 : Try.prog.cellsOf 3 = 1 := by kernel_rfl
    have z9 : Try.prog.cellsOf 9 = 1 := by kernel_rfl
    have z22 : Try.prog.cellsOf 22 = 1 := by kernel_rfl
    have f0 : DataW.trod enc Try.prog w base spare held q 3 (([c0, c1, c2].drop 0).take (Try.prog.cellsOf 3)) = some x0 := hf 0 _ rfl; have f1 : DataW.trod enc Try.prog w base spare held q 9 (([c0, c1, c2].drop 1).take (Try.prog.cellsOf 9)) = some x1 := hf 1 _ rfl; have f2 : DataW.trod enc Try.prog w base spare held q 22 (([c0, c1, c2].drop 2).take (Try.prog.cellsOf 22)) = some x2 := hf 2 _ rfl; rw [z3] at f0; rw [z9] at f1; rw [z22] at f2; replace f0 : DataW.trod enc Try.prog w base spare held q 3 [c0] = some x0 := f0; replace f1 : DataW.trod enc Try.prog w base spare held q 9 [c1] = some x1 := f1; replace f2 : DataW.trod enc Try.prog w base spare held q 22 [c2] = some x2 := f2; obtain ⟨a0, e0, b0, q0⟩ := op_int Try.underlying3 enc w base spare held _ _ f0; obtain ⟨a1, e1, b1, q1⟩ := op_string Try.underlying9 enc w base spare held _ _ f1
    have g2 : ∃ (l : List S42) (A : Option Addr) (c : Nat), [c2] = [.slice A l.length c] ∧ l.length ≤ c ∧ k42.C w A l.length l ∧ bkL bk42 l + 1 ≤ Rows.uptoBulk x2.1 ∧ (∀ a ∈ l, ok42 a) := by
      cases q with
      | zero => exact (trod0 f2).elim
      | succ q => exact slice_at (ih q (by omega)) Try.underlying22 cells42 f2
    obtain ⟨l, A, c, e2, hl, hC, hb, hq⟩ := g2; replace b0 : 1 ≤ Rows.uptoBulk x0.1 := b0; replace b1 : a1.size + 1 ≤ Rows.uptoBulk x1.1 := b1; have e0' : [c0] = [Value.int .i64 a0] := e0; have e1' : [c1] = [Value.string a1] := e1; obtain rfl := (List.cons.inj e0').1; obtain rfl := (List.cons.inj e1').1; obtain rfl := (List.cons.inj e2).1; refine ⟨⟨a0, a1, l⟩, k42_mk w ⟨a0, a1, l⟩ hl hC, ?_, ?_⟩
    · rw [bk42s_eq] at hb; simp only [bk42, List.map_cons, List.map_nil, Rows.uptoBulk, Rows.uptoBulkAll]
      omega
    · exact ⟨q0, ok42s_of l hq⟩
theorem opSlice22 {n : Nat} {H : Type} {enc : TypeId × Value → H} {w : World} {base : Nat} {spare : Nat → Bool} {held : Bool} {cs : List Value} {x : DataW H × List MemPlace} (h : DataW.trod enc Try.prog w base spare held n 22 cs = some x) :
    ∃ (l : List S42) (A : Option Addr) (c : Nat), cs = [.slice A l.length c] ∧ l.length ≤ c ∧ k42.C w A l.length l ∧ bk42s l + 1 ≤ Rows.uptoBulk x.1 ∧ ok42s l := by
  cases n with
  | zero => exact (trod0 h).elim
  | succ n =>
    obtain ⟨l, A, c, h1, h2, h3, h4, h5⟩ := slice_at (op42 n n (Nat.le_refl _)) Try.underlying22 cells42 h; exact ⟨l, A, c, h1, h2, h3, by rw [← bk42s_eq]; exact h4, ok42s_of l h5⟩
end Go.Proofs.Ytdbjjaodkapikaa.TE
