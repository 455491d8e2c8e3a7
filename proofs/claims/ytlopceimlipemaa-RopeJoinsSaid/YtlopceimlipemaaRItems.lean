import Derived.Test.YtlopceimlipemaaRAt
import Derived.Test.YtlopceimlipemaaRKeep
import Derived.Stop.RegionWithIn
namespace Go.Proofs.Ytlopceimlipemaa.Rope
open Go.RowKit Go.Proofs.YtlopceimlipemaaW.PrintWords Go.Proofs.YtlopceimlipemaaW.PrintLast Go.Proofs.YtlopceimlipemaaW.PrintMore Go.Shelf
set_option linter.unusedVariables false
set_option linter.unusedSimpArgs false
attribute [local go_sem] Oper.semAt_some

def enc2_int (y : Int × Int) : Array Value := #[.int .i64 y.1, ((.int .i64 : Int → Value)) y.2]
/-- What a node's walk hands on: with their places, from f on. -/
def idx_int (f : Int) : List Int → List (Int × Int)
  | [] => []
  | x :: r => (f, x) :: idx_int (f + 1) r
def items_int (f : Int) (back : Bool) (l : List Int) : List (Int × Int) := if back then (idx_int f l).reverse else idx_int f l
theorem idx_len_int : ∀ (f : Int) (l : List Int), (idx_int f l).length = l.length
  | f, [] => rfl
  | f, x :: r => by simp [idx_int, idx_len_int (f + 1) r]
theorem items_len_int (f : Int) (back : Bool) (l : List Int) : (items_int f back l).length = l.length := by unfold items_int; split <;> simp [idx_len_int]
theorem idx_at_int : ∀ (f : Int) (l : List Int) (k : Nat) (h : k < l.length), (idx_int f l)[k]'(by rw [idx_len_int]; exact h) = (f + k, l[k])
  | f, x :: r, 0, h => by simp [idx_int]
  | f, x :: r, k + 1, h => by
    simp only [idx_int, List.getElem_cons_succ]
    rw [idx_at_int (f + 1) r k (by simpa using h)]
    congr 1; push_cast; omega
theorem idx_append_int : ∀ (f : Int) (a b : List Int), idx_int f (a ++ b) = idx_int f a ++ idx_int (f + a.length) b
  | f, [], b => by simp [idx_int]
  | f, x :: r, b => by
    simp only [List.cons_append, idx_int, idx_append_int (f + 1) r b, List.length_cons]
    congr 3; push_cast; omega
theorem items_fwd_int (f : Int) (l : List Int) (k : Nat) (h : k < l.length) : (items_int f false l)[k]'(by rw [items_len_int]; exact h) = (f + k, l[k]) := by
  show (idx_int f l)[k]'_ = _
  exact idx_at_int f l k h
theorem items_rev_int (f : Int) (l : List Int) (k j : Nat) (h : k < l.length) (hj : j = l.length - 1 - k) (hjl : j < l.length) : (items_int f true l)[k]'(by rw [items_len_int]; exact h) = (f + j, l[j]) := by
  subst hj
  have e := idx_at_int f l (l.length - 1 - k) hjl
  have e2 : (idx_int f l).length - 1 - k = l.length - 1 - k := by rw [idx_len_int]
  have e3 : (idx_int f l).reverse[k]'(by rw [List.length_reverse, idx_len_int]; exact h) = (idx_int f l)[(idx_int f l).length - 1 - k]'(by rw [idx_len_int]; omega) := List.getElem_reverse _
  refine Eq.trans e3 (Eq.trans ?_ e)
  simp only [e2]
def itemsO_int (f : Int) (back : Bool) (t : Option (Tr Int)) : List (Int × Int) := items_int f back (listO t)
theorem items_fork_int (f : Int) (a b : Tr Int) : items_int f false (Tr.fork a b).list = items_int f false a.list ++ items_int (f + a.len) false b.list := by
  show idx_int f (a.list ++ b.list) = _
  rw [idx_append_int, a.list_len]; rfl
theorem items_forkr_int (f : Int) (a b : Tr Int) : items_int f true (Tr.fork a b).list = items_int (f + a.len) true b.list ++ items_int f true a.list := by
  show (idx_int f (a.list ++ b.list)).reverse = _
  rw [idx_append_int, a.list_len, List.reverse_append]; rfl
/-- What a node's walk owes. -/
def Walks_int (w0 : World) (lp m N : Nat) (J Jx : List (Int × Int) → World → Prop) (t : Tr Int) : Prop :=
  ∀ (p : Option Addr) (f : Int) (back : Bool) (pre : List (Int × Int)) (W : World), IsN K_int w0 p t → Below w0.heap.size w0 W → m ≤ W.heap.size → J pre W → pre.length + t.len ≤ N → 0 ≤ f → f + t.len ≤ 4611686018427387904 →
    Calls Try.prog 50 #[.pointer p, .int .i64 f, .bool back, .func (.yield lp) #[] #[]] W fun e W' =>
      (e = .returned (.bool true) ∧ J (pre ++ items_int f back t.list) W' ∧ KeepC w0.heap.size m W W') ∨
      (e = .returned (.bool false) ∧ ∃ q, q <+: items_int f back t.list ∧ Jx (pre ++ q) W')

end Go.Proofs.Ytlopceimlipemaa.Rope

namespace Go.Proofs.Ytlopceimlipemaa.Rope
open Go.RowKit Go.Proofs.YtlopceimlipemaaW.PrintWords Go.Proofs.YtlopceimlipemaaW.PrintLast Go.Proofs.YtlopceimlipemaaW.PrintMore Go.Shelf
set_option linter.unusedVariables false
set_option linter.unusedSimpArgs false
attribute [local go_sem] Oper.semAt_some

def enc2_string (y : Int × ByteArray) : Array Value := #[.int .i64 y.1, (Value.string) y.2]
/-- What a node's walk hands on: with their places, from f on. -/
def idx_string (f : Int) : List ByteArray → List (Int × ByteArray)
  | [] => []
  | x :: r => (f, x) :: idx_string (f + 1) r
def items_string (f : Int) (back : Bool) (l : List ByteArray) : List (Int × ByteArray) := if back then (idx_string f l).reverse else idx_string f l
theorem idx_len_string : ∀ (f : Int) (l : List ByteArray), (idx_string f l).length = l.length
  | f, [] => rfl
  | f, x :: r => by simp [idx_string, idx_len_string (f + 1) r]
theorem items_len_string (f : Int) (back : Bool) (l : List ByteArray) : (items_string f back l).length = l.length := by unfold items_string; split <;> simp [idx_len_string]
theorem idx_at_string : ∀ (f : Int) (l : List ByteArray) (k : Nat) (h : k < l.length), (idx_string f l)[k]'(by rw [idx_len_string]; exact h) = (f + k, l[k])
  | f, x :: r, 0, h => by simp [idx_string]
  | f, x :: r, k + 1, h => by
    simp only [idx_string, List.getElem_cons_succ]
    rw [idx_at_string (f + 1) r k (by simpa using h)]
    congr 1; push_cast; omega
theorem idx_append_string : ∀ (f : Int) (a b : List ByteArray), idx_string f (a ++ b) = idx_string f a ++ idx_string (f + a.length) b
  | f, [], b => by simp [idx_string]
  | f, x :: r, b => by
    simp only [List.cons_append, idx_string, idx_append_string (f + 1) r b, List.length_cons]
    congr 3; push_cast; omega
theorem items_fwd_string (f : Int) (l : List ByteArray) (k : Nat) (h : k < l.length) : (items_string f false l)[k]'(by rw [items_len_string]; exact h) = (f + k, l[k]) := by
  show (idx_string f l)[k]'_ = _
  exact idx_at_string f l k h
theorem items_rev_string (f : Int) (l : List ByteArray) (k j : Nat) (h : k < l.length) (hj : j = l.length - 1 - k) (hjl : j < l.length) : (items_string f true l)[k]'(by rw [items_len_string]; exact h) = (f + j, l[j]) := by
  subst hj
  have e := idx_at_string f l (l.length - 1 - k) hjl
  have e2 : (idx_string f l).length - 1 - k = l.length - 1 - k := by rw [idx_len_string]
  have e3 : (idx_string f l).reverse[k]'(by rw [List.length_reverse, idx_len_string]; exact h) = (idx_string f l)[(idx_string f l).length - 1 - k]'(by rw [idx_len_string]; omega) := List.getElem_reverse _
  refine Eq.trans e3 (Eq.trans ?_ e)
  simp only [e2]
def itemsO_string (f : Int) (back : Bool) (t : Option (Tr ByteArray)) : List (Int × ByteArray) := items_string f back (listO t)
theorem items_fork_string (f : Int) (a b : Tr ByteArray) : items_string f false (Tr.fork a b).list = items_string f false a.list ++ items_string (f + a.len) false b.list := by
  show idx_string f (a.list ++ b.list) = _
  rw [idx_append_string, a.list_len]; rfl
theorem items_forkr_string (f : Int) (a b : Tr ByteArray) : items_string f true (Tr.fork a b).list = items_string (f + a.len) true b.list ++ items_string f true a.list := by
  show (idx_string f (a.list ++ b.list)).reverse = _
  rw [idx_append_string, a.list_len, List.reverse_append]; rfl
/-- What a node's walk owes. -/
def Walks_string (w0 : World) (lp m N : Nat) (J Jx : List (Int × ByteArray) → World → Prop) (t : Tr ByteArray) : Prop :=
  ∀ (p : Option Addr) (f : Int) (back : Bool) (pre : List (Int × ByteArray)) (W : World), IsN K_string w0 p t → Below w0.heap.size w0 W → m ≤ W.heap.size → J pre W → pre.length + t.len ≤ N → 0 ≤ f → f + t.len ≤ 4611686018427387904 →
    Calls Try.prog 81 #[.pointer p, .int .i64 f, .bool back, .func (.yield lp) #[] #[]] W fun e W' =>
      (e = .returned (.bool true) ∧ J (pre ++ items_string f back t.list) W' ∧ KeepC w0.heap.size m W W') ∨
      (e = .returned (.bool false) ∧ ∃ q, q <+: items_string f back t.list ∧ Jx (pre ++ q) W')

end Go.Proofs.Ytlopceimlipemaa.Rope
