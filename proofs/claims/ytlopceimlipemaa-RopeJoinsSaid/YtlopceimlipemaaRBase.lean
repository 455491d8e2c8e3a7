/- Ropes: what a node in memory is, whatever the elements. -/
import Derived.Test.YtlopceimlipemaaWWords
import Derived.Test.YtlopceimlipemaaWLast
import Derived.Test.YtlopceimlipemaaWMore
import Derived.Test.YtlopceimlipemaaWShare
import Derived.RangeFuncRecord
namespace Go.Proofs.Ytlopceimlipemaa.Rope
open Go.RowKit Go.Proofs.YtlopceimlipemaaW.PrintWords Go.Proofs.YtlopceimlipemaaW.PrintLast Go.Proofs.YtlopceimlipemaaW.PrintMore
set_option linter.unusedVariables false
set_option linter.unusedSimpArgs false

/-- A tree: a leaf with elements, or two trees. -/
inductive Tr (α : Type) where
  | leaf (xs : List α)
  | fork (a b : Tr α)
namespace Tr
variable {α : Type}
def len : Tr α → Nat
  | leaf xs => xs.length
  | fork a b => a.len + b.len
def ht : Tr α → Nat
  | leaf _ => 1
  | fork a b => max a.ht b.ht + 1
def list : Tr α → List α
  | leaf xs => xs
  | fork a b => a.list ++ b.list
theorem list_len : ∀ t : Tr α, t.list.length = t.len
  | leaf xs => rfl
  | fork a b => by simp [list, len, list_len a, list_len b]
end Tr

/-- How an element lies in memory: its cells, a zero's, the node's type. -/
structure El (α : Type) where
  enc : α → List Value
  z : List Value
  sz : Nat
  NT : TypeId
  enc_len : ∀ x, (enc x).length = sz
  z_len : z.length = sz

variable {α : Type} (K : El α)
def El.zs (n : Nat) : List Value := (List.replicate n K.z).flatten
def El.cells (s h : Int) (l r : Option Addr) (items : List Value) : Obj := .cells (.int .i64 s :: .int .i64 h :: .pointer l :: .pointer r :: items).toArray K.NT (0, 0)
/-- A tree in memory. -/
def IsN (W : World) : Option Addr → Tr α → Prop
  | p, .leaf xs => ∃ b, p = some ⟨b, 0, none⟩ ∧ 1 ≤ xs.length ∧ xs.length ≤ 16 ∧ W.heap[b]? = some (K.cells xs.length 1 none none (xs.flatMap K.enc ++ K.zs (16 - xs.length)))
  | p, .fork a c => ∃ b pa pc, p = some ⟨b, 0, none⟩ ∧ IsN W pa a ∧ IsN W pc c ∧ W.heap[b]? = some (K.cells ((a.len + c.len : Nat) : Int) ((max a.ht c.ht + 1 : Nat) : Int) pa pc (K.zs 16))
def IsO (W : World) : Option Addr → Option (Tr α) → Prop
  | p, none => p = none
  | p, some t => IsN K W p t
variable {K}
theorem IsN.below {W W1 : World} (hb : Below W.heap.size W W1) : ∀ {p : Option Addr} {t : Tr α}, IsN K W p t → IsN K W1 p t
  | p, .leaf xs, ⟨b, hp, h1, h2, h3⟩ => ⟨b, hp, h1, h2, (hb.block b (Array.getElem?_eq_some_iff.1 h3).1).trans h3⟩
  | p, .fork a c, ⟨b, pa, pc, hp, ha, hc, h3⟩ => ⟨b, pa, pc, hp, ha.below hb, hc.below hb, (hb.block b (Array.getElem?_eq_some_iff.1 h3).1).trans h3⟩
theorem IsO.below {W W1 : World} (hb : Below W.heap.size W W1) : ∀ {p : Option Addr} {t : Option (Tr α)}, IsO K W p t → IsO K W1 p t
  | p, none, h => h
  | p, some t, h => IsN.below hb h
/-- A node's own four cells. -/
theorem IsN.node {W : World} : ∀ {p : Option Addr} {t : Tr α}, IsN K W p t → ∃ b l r, p = some ⟨b, 0, none⟩ ∧ W.cell? ⟨b, 0, none⟩ = some (.int .i64 (t.len : Int)) ∧ W.cell? ⟨b, 1, none⟩ = some (.int .i64 (t.ht : Int)) ∧
      W.cell? ⟨b, 2, none⟩ = some (.pointer l) ∧ W.cell? ⟨b, 3, none⟩ = some (.pointer r) ∧ (match t with | .leaf xs => l = none ∧ r = none | .fork a c => IsN K W l a ∧ IsN K W r c)
  | p, .leaf xs, ⟨b, hp, h1, h2, h3⟩ => ⟨b, none, none, hp, (blk_cell h3 0).trans rfl, (blk_cell h3 1).trans rfl, (blk_cell h3 2).trans rfl, (blk_cell h3 3).trans rfl, rfl, rfl⟩
  | p, .fork a c, ⟨b, pa, pc, hp, ha, hc, h3⟩ => ⟨b, pa, pc, hp, (blk_cell h3 0).trans rfl, (blk_cell h3 1).trans rfl, (blk_cell h3 2).trans rfl, (blk_cell h3 3).trans rfl, ha, hc⟩
theorem Tr.ht_pos : ∀ t : Tr α, 1 ≤ t.ht
  | .leaf _ => Nat.le_refl _
  | .fork a b => Nat.succ_le_succ (Nat.zero_le _)
theorem IsN.len_pos {W : World} : ∀ {p : Option Addr} {t : Tr α}, IsN K W p t → 1 ≤ t.len
  | p, .leaf xs, ⟨b, hp, h1, h2, h3⟩ => h1
  | p, .fork a c, ⟨b, pa, pc, hp, ha, hc, h3⟩ => Nat.le_trans ha.len_pos (Nat.le_add_right _ _)
theorem IsN.ht_le {W : World} : ∀ {p : Option Addr} {t : Tr α}, IsN K W p t → t.ht ≤ t.len
  | p, .leaf xs, ⟨b, hp, h1, h2, h3⟩ => h1
  | p, .fork a c, ⟨b, pa, pc, hp, ha, hc, h3⟩ => by
    have h1 := ha.ht_le
    have h2 := hc.ht_le
    have h3 := ha.len_pos
    have h4 := hc.len_pos
    simp only [Tr.ht, Tr.len]; omega

/-- The world under one name. -/
theorem world_any {P : Program} {c : Code} {Q : Exit → Act → World → Prop} {a : Act} {w W : World} (hb : Below w.heap.size w W) (h : ∀ W', Below w.heap.size w W' → c.wp P Q a W') : c.wp P Q a W := h W hb
theorem calls_world {P : Program} {f : FuncId} {args : Array Value} {R : Ending → World → Prop} {w W : World} (hb : Below w.heap.size w W) (h : ∀ W', Below w.heap.size w W' → Calls P f args W' R) : Calls P f args W R := h W hb
theorem heap_new (w : World) (o : Obj) : (w.alloc o).heap[w.heap.size]? = some o := World.alloc_heap_new w o
def Tr.bal {α : Type} (a b : Tr α) : Tr α :=
  if b.ht + 1 < a.ht then (match a with
    | .fork al ar => if ar.ht ≤ al.ht then .fork al (.fork ar b) else (match ar with
      | .fork rl rr => .fork (.fork al rl) (.fork rr b)
      | .leaf _ => .fork a b)
    | .leaf _ => .fork a b)
  else if a.ht + 1 < b.ht then (match b with
    | .fork bl br => if bl.ht ≤ br.ht then .fork (.fork a bl) br else (match bl with
      | .fork ll lr => .fork (.fork a ll) (.fork lr br)
      | .leaf _ => .fork a b)
    | .leaf _ => .fork a b)
  else .fork a b
theorem max_cases_ (a b : Nat) : (a < b ∧ max a b = b) ∨ (¬ a < b ∧ max a b = a) := by omega
end Go.Proofs.Ytlopceimlipemaa.Rope
