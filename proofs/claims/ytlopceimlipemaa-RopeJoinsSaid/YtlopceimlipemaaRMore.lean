/- Ropes: a tree beside other memory. -/
import Derived.Test.YtlopceimlipemaaRPure
namespace Go.Proofs.Ytlopceimlipemaa.Rope
open Go.RowKit Go.Proofs.YtlopceimlipemaaW.PrintWords Go.Proofs.YtlopceimlipemaaW.PrintLast Go.Proofs.YtlopceimlipemaaW.PrintMore
set_option linter.unusedVariables false
set_option linter.unusedSimpArgs false
variable {α : Type} {K : El α}
/-- What holds of all nodes' blocks stays. -/
theorem IsN.move {W W1 : World} (h : ∀ (k : Nat) (cs : Array Value), W.heap[k]? = some (Obj.cells cs K.NT (0, 0)) → W1.heap[k]? = some (Obj.cells cs K.NT (0, 0))) : ∀ {p : Option Addr} {t : Tr α}, IsN K W p t → IsN K W1 p t
  | p, .leaf xs, ⟨b, hp, h1, h2, h3⟩ => ⟨b, hp, h1, h2, h _ _ h3⟩
  | p, .fork a c, ⟨b, pa, pc, hp, ha, hc, h3⟩ => ⟨b, pa, pc, hp, ha.move h, hc.move h, h _ _ h3⟩
theorem IsO.move {W W1 : World} (h : ∀ (k : Nat) (cs : Array Value), W.heap[k]? = some (Obj.cells cs K.NT (0, 0)) → W1.heap[k]? = some (Obj.cells cs K.NT (0, 0))) : ∀ {p : Option Addr} {t : Option (Tr α)}, IsO K W p t → IsO K W1 p t
  | p, none, hp => hp
  | p, some t, hp => IsN.move h hp
theorem IsO.set {W : World} {b i : Nat} {cells : Array Value} {t' : TypeId} (v : Value) (hb : W.heap[b]? = some (.cells cells t' (0, 0))) (ht : t' ≠ K.NT) {p : Option Addr} {t : Option (Tr α)} (h : IsO K W p t) : IsO K (W.setCell ⟨b, i, none⟩ v) p t :=
  IsO.move (fun k cs hk => by
    by_cases e : k = b
    · subst e
      rw [hb] at hk
      injection hk with hk
      injection hk with _ hk
      exact absurd hk ht
    · exact (Below.heap_setCell W ⟨b, i, none⟩ v k e).trans hk) h

def htO {α : Type} : Option (Tr α) → Nat
  | none => 0
  | some t => t.ht
theorem alloc2 (w : World) (a b : Obj) : ((w.alloc a).alloc b).heap[w.heap.size]? = some a ∧ ((w.alloc a).alloc b).heap[w.heap.size + 1]? = some b ∧ Below w.heap.size w ((w.alloc a).alloc b) := by
  refine ⟨(Below.heap_alloc _ _ _ (by simp)).trans (heap_new w a), ?_, ((Below.refl _ w).alloc (Nat.le_refl _) _).alloc (by simp) _⟩
  have := heap_new (w.alloc a) b
  rwa [World.size_alloc] at this
theorem alloc3 (w : World) (a b c : Obj) : (((w.alloc a).alloc b).alloc c).heap[w.heap.size]? = some a ∧ (((w.alloc a).alloc b).alloc c).heap[w.heap.size + 1]? = some b ∧ (((w.alloc a).alloc b).alloc c).heap[w.heap.size + 1 + 1]? = some c ∧ Below w.heap.size w (((w.alloc a).alloc b).alloc c) := by
  obtain ⟨h1, h2, h3⟩ := alloc2 w a b
  refine ⟨(Below.heap_alloc _ _ _ (by simp; omega)).trans h1, (Below.heap_alloc _ _ _ (by simp)).trans h2, ?_, h3.alloc (by simp; omega) _⟩
  have := heap_new ((w.alloc a).alloc b) c
  rwa [World.size_alloc, World.size_alloc] at this
theorem set_heap {W : World} {b : Nat} {v u : Value} {t : TypeId} (h : W.heap[b]? = some (.cells #[v] t (0, 0))) : (W.setCell ⟨b, 0, none⟩ u).heap[b]? = some (.cells #[u] t (0, 0)) := by
  have := blk_set h 0 u
  simpa using this
theorem set_other {W : World} {b c : Nat} {u : Value} {o : Obj} (h : W.heap[c]? = some o) (hne : c ≠ b) : (W.setCell ⟨b, 0, none⟩ u).heap[c]? = some o := (Below.heap_setCell W ⟨b, 0, none⟩ u c hne).trans h

/-- Two indices, taken into the range. -/
def loB (n : Nat) (from_ : Int) : Int := mn (mx from_ 0) n
def hiB (n : Nat) (from_ to_ : Int) : Int := mx (mn (mx to_ 0) n) (mn (mx from_ 0) n)
def partO {α : Type} (t : Option (Tr α)) (from_ to_ : Int) : Option (Tr α) := (splitO (splitO t (hiB (lenO t) from_ to_)).1 (loB (lenO t) from_)).2
def replO {α : Type} (t : Option (Tr α)) (from_ to_ : Int) (s : Option (Tr α)) : Option (Tr α) := joinO (joinO (splitO t (loB (lenO t) from_)).1 s) (splitO t (hiB (lenO t) from_ to_)).2

end Go.Proofs.Ytlopceimlipemaa.Rope
