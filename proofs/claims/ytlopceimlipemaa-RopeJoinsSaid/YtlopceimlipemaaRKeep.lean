/- What a round of a range over a function keeps; ways in and out. -/
import Derived.Test.YtlopceimlipemaaRMore
import Derived.Lib.BufferMore
import Derived.Maps.RangeRun
import Derived.WalkSpells
import Derived.RangeFuncNested
import Derived.RangeFuncBound
import Derived.RangeFuncCalls
import Derived.RangeFuncLeaves
import Derived.Shelf.Abstract
import Derived.OwnWalkIn
import Derived.TacticsInMore
import Derived.LoopNIn
import Derived.LoopIn
import Derived.ArgAppend
import Derived.RangeFuncBox
namespace Go.Proofs.Ytlopceimlipemaa.Rope
open Go.RowKit Go.Proofs.YtlopceimlipemaaW.PrintWords Go.Proofs.YtlopceimlipemaaW.PrintLast Go.Proofs.YtlopceimlipemaaW.PrintMore Go.Shelf
set_option linter.unusedVariables false
set_option linter.unusedSimpArgs false
attribute [local go_sem] Oper.semAt_some

/-- What a round that goes on keeps: all below n₀; each block of one cell from m on. -/
structure KeepC (n₀ m : Nat) (W W' : World) : Prop where
  below : Below n₀ W W'
  cells : ∀ k v t fr, m ≤ k → W.heap[k]? = some (.cells #[v] t fr) → W'.heap[k]? = some (.cells #[v] t fr)
theorem KeepC.trans {n₀ m : Nat} {A B C : World} (h : KeepC n₀ m A B) (k : KeepC n₀ m B C) : KeepC n₀ m A C :=
  ⟨h.below.trans k.below, fun i cs t fr hi hc => k.cells i cs t fr hi (h.cells i cs t fr hi hc)⟩
theorem KeepC.refl (n₀ m : Nat) (W : World) : KeepC n₀ m W W := ⟨Below.refl _ _, fun _ _ _ _ _ h => h⟩
theorem KeepC.ofBelow {n₀ m : Nat} {W W' : World} (h : Below W.heap.size W W') (hn : n₀ ≤ W.heap.size) : KeepC n₀ m W W' :=
  ⟨h.mono hn, fun k cs t fr _ hc => (h.block k (Array.getElem?_eq_some_iff.1 hc).1).trans hc⟩
theorem KeepC.put {n₀ m : Nat} (W : World) (l : Nat) (o o' : Obj) (hl : n₀ ≤ l) (h : W.heap[l]? = some o) (hc : o.isCells = false) : KeepC n₀ m W (W.putObj l o') :=
  ⟨(Below.refl n₀ W).grown (grownBy_putObj' W l o') (by have := (Array.getElem?_eq_some_iff.1 h).1; omega) (fun k e => by cases e; omega), fun k cs t fr _ hk => by
    by_cases e : k = l
    · subst e; rw [h] at hk; cases hk; simp [Obj.isCells] at hc
    · exact (World.putObj_heap_other e).trans hk⟩

theorem round_any {m m' : Nat} {P : Program} {l : Nat} {f : FuncId} {tmps : Array Value} {assign body : Code} {w : World} {R : Ending → World → Prop}
    (h : RoundIn Fence.wide m P l f tmps assign body w R) : RoundIn Fence.wide m' P l f tmps assign body w R := ⟨h.1, fun c cs _ => h.2 c cs (room_wide _)⟩
theorem calls_any {m m' : Nat} {P : Program} {f : FuncId} {args : Array Value} {w : World} {R : Ending → World → Prop} (h : CallsIn Fence.wide m P f args w R) : CallsIn Fence.wide m' P f args w R :=
  ⟨h.1, fun cs _ => h.2 cs (room_wide _)⟩
theorem yield_any {m m' : Nat} {P : Program} {l : Nat} {args : Array Value} {W : World} {R : Ending → World → Prop} (h : YieldAt Fence.wide m P l args W R) : YieldAt Fence.wide m' P l args W R := by
  obtain ⟨fn, tmps, assign, body, hy, hR⟩ := h
  exact ⟨fn, tmps, assign, body, hy, round_any hR⟩
theorem keepsFrom_below {B : Nat} {W W' : World} (h : Below W.heap.size W W') : KeepsFrom B W W' :=
  ⟨h.size, fun k o _ hk _ => (h.block k (Array.getElem?_eq_some_iff.1 hk).1).trans hk⟩
theorem ownFrom_blk {β : Type} (B b : Nat) (cs : β → Array Value) (t : TypeId) : OwnFrom B (fun (s : β) W => W.heap[b]? = some (.cells (cs s) t (0, 0))) :=
  fun s W W' row hs hg hr => (grownBy_keeps_cells hg (fun r e => (hr r e).2) hs rfl).trans hs
theorem ownFrom_old {β : Type} (B b : Nat) (o : Obj) (hb : b < B) : OwnFrom B (fun (_ : β) W => W.heap[b]? = some o) :=
  fun s W W' row hs hg hr => (hg.block b (Array.getElem?_eq_some_iff.1 hs).1 (fun e => by have := (hr b e.symm).1; omega)).trans hs
theorem ownFrom_size {β : Type} (B n : Nat) : OwnFrom B (fun (_ : β) W => n ≤ W.heap.size) := fun s W W' row hs hg hr => Nat.le_trans hs hg.size
theorem ownFrom_pure {β : Type} (B : Nat) (P : β → Prop) : OwnFrom B (fun (s : β) (_ : World) => P s) := fun _ _ _ _ h _ _ => h
theorem setCell_blk {W : World} {b : Nat} {v u : Value} {t : TypeId} (h : W.heap[b]? = some (.cells #[v] t (0, 0))) : (W.setCell ⟨b, 0, none⟩ u).heap[b]? = some (.cells #[u] t (0, 0)) := by
  have := blk_set h 0 u
  simpa using this
theorem KeepC.setCell {n₀ m : Nat} (W : World) (b i : Nat) (v : Value) (h1 : n₀ ≤ b) (h2 : b < m) : KeepC n₀ m W (W.setCell ⟨b, i, none⟩ v) :=
  ⟨(Below.refl n₀ W).setCell (p := ⟨b, i, none⟩) h1 v, fun k cs t fr hk hc => (Below.heap_setCell W ⟨b, i, none⟩ v k (by simp; omega)).trans hc⟩
theorem putObj_below {n : Nat} {w W : World} (h : Below n w W) (D : Nat) (o' : Obj) (hD : n ≤ D) (hsz : n ≤ W.heap.size) : Below n w (W.putObj D o') :=
  h.grown (grownBy_putObj' _ D _) hsz (fun k e => by cases e; omega)
def noPanic (Q : Exit → Act → World → Prop) : Exit → Act → World → Prop
  | .panic _, _, _ => False
  | e, a, w => Q e a w
theorem noPanic_le {Q : Exit → Act → World → Prop} : ∀ e a w, noPanic Q e a w → Q e a w
  | .panic _, _, _, h => h.elim
  | .normal, _, _, h => h
  | .ret, _, _, h => h
  | .exit _, _, _, h => h
  | .goto _, _, _, h => h
  | .outgrown, _, _, h => h
theorem calls_of_wp_marks {P : Program} {f : FuncId} {fn : Func} {c : Code} {args : Array Value} {w : World} {R : Ending → World → Prop}
    (hf : P.funcs[f]? = some fn) (hb : fn.body = some c)
    (h : c.wp P (noPanic (bodyPostM Fence.wide 9 P fn R)) { tmps := args ++ Array.replicate (fn.ntmps - args.size) undef, defers := [] } w) : Calls P f args w R :=
  callsIn_wide.1 (callsIn_of_wp_marks hf hb trivial (wpIn_wide.2 (Code.wp_mono noPanic_le h)))
/-- A return past one mark, past two. -/
theorem leave1 {P : Program} {fn : Func} {tmps : Array Value} {R : Ending → World → Prop} {D : Nat} {W : World} {v : Value} (hk : W.heap[D]? = some (.deferred (some [])))
    (hr : ∀ W', (results fn tmps).run P W' = .ok v W') (h : R (.returned v) (W.putObj D (.deferred none))) :
    LeavesInM Fence.wide 9 P fn tmps R [{ target := .collected D, args := #[] }] .returning W :=
  ⟨by simp, .inl ⟨_, _, rfl, run_takeDeferred hk, _, hr _, h⟩⟩

/-- An append of one's own: no block of one cell is changed. -/
theorem run_append_own1 {P : Program} (w : World) (base : Nat) (t ty e : TypeId) (i : TypeInfo) (z : Value) (size bytes : Nat) (ht : P.underlying t = some (.slice e)) (hi : P.info? e = some i) (hz : i.zero = some z)
    (hsize : i.size = size) (hby : i.bytes = bytes) (hzs : z.cells.size = size) (hsz : 0 < size)
    (v : Value) (n : Nat) (xs : List Value) (hown : w.ownsRow base e size v n xs) (hn0 : v = .slice none 0 0 ∨ 1 ≤ n)
    (a : Addr) (m c : Nat) (news : List Value) (hl : news.length = m * size) (hnews : ∀ j u, news[j]? = some u → w.cell? (a.add j) = some u) (h1 : ∀ u ∈ news, u.oneCell' = true) (hm : 1 ≤ m)
    (h63 : n + m ≤ maxLen) (hbytes : (n + m) * bytes ≤ 140737488355328) (hbase : base ≤ w.heap.size) :
    ∃ v' w', (Builtin.append_ #[t, t] ty #[v, .slice (some a) m c]).run P w = .ok v' w' ∧ w'.ownsRow base e size v' (n + m) (xs ++ news) ∧ w.grownBy w' v.ownBlock ∧
      (∀ (k : Nat) (u : Value) (tt : TypeId) (fr : Nat × Nat), w.heap[k]? = some (Obj.cells #[u] tt fr) → w'.heap[k]? = some (Obj.cells #[u] tt fr)) := by
  rcases hown.2 with ⟨rfl, rfl⟩ | ⟨g, cap, cur, rfl, hbg, hg, hnc, hcm, hcs, htake⟩
  · obtain ⟨v', w', h1, h2, h3, _⟩ := run_append_own (P := P) w base t ty e i z size bytes ht hi hz hsize hby hzs hsz _ 0 xs hown a m c news hl hnews h1 h63 hbytes hbase
    exact ⟨v', w', h1, h2, h3, fun k u tt fr hk => (h3.block k (Array.getElem?_eq_some_iff.1 hk).1 (by simp [Value.ownBlock])).trans hk⟩
  · have hn1 : 1 ≤ n := by rcases hn0 with h | h; cases h; exact h
    by_cases hr : cap < n + m
    · obtain ⟨v', w', h1, h2, h3⟩ := run_append_arg_grows (P := P) w t ty e i z size bytes ht hi hz hsize hby hzs hsz ⟨g, 0, none⟩ n cap xs hown.1 (hown.cells (g := g) rfl) a m c news hl hnews hr h63 hbytes
      refine ⟨v', w', h1, ?_, ⟨h3.os, h3.tape, h3.output, h3.size, fun k hk _ => h3.block k hk (by simp)⟩, fun k u tt fr hk => (h3.block k (Array.getElem?_eq_some_iff.1 hk).1 (by simp)).trans hk⟩
      rcases h2.2 with h4 | ⟨g', cap', cur', e', hb', h5⟩
      · exact ⟨h2.1, .inl h4⟩
      · exact ⟨h2.1, .inr ⟨g', cap', cur', e', Nat.le_trans hbase hb', h5⟩⟩
    · obtain ⟨v', w', h1, h2, h3, _⟩ := run_append_own (P := P) w base t ty e i z size bytes ht hi hz hsize hby hzs hsz _ n xs hown a m c news hl hnews h1 h63 hbytes hbase
      refine ⟨v', w', h1, h2, h3, fun k u tt fr hk => (h3.block k (Array.getElem?_eq_some_iff.1 hk).1 ?_).trans hk⟩
      intro e'
      obtain rfl : k = g := by simpa [Value.ownBlock] using e'
      rw [hg] at hk
      injection hk with hk
      injection hk with hk _
      subst hk
      have h2c : 2 * 1 ≤ cap * size := Nat.mul_le_mul (by omega) hsz
      rw [← hcs] at h2c
      simp at h2c
theorem wpListIn_append_own1 {F : Fence} {n : Nat} {P : Program} (w : World) {ops : Array Oper} {rest : List Oper} {o : Oper} {a : Act} {Q : Exit → Act → World → Prop}
    (hg : o.guard = none) (s x : Operand) (t : TypeId) (hop : o.op = Op.call { callee := Callee.builtin Builtin.append, args := #[s, x], argTypes := #[t, t] })
    (base : Nat) (e : TypeId) (i : TypeInfo) (z : Value) (size bytes : Nat) (h1 : P.underlying t = some (.slice e)) (h2 : P.info? e = some i) (h3 : i.zero = some z) (h4 : i.size = size) (h5 : i.bytes = bytes) (h6 : z.cells.size = size) (h7 : 0 < size)
    (v : Value) (k : Nat) (xs : List Value) (hs : a.eval s = v) (hown : w.ownsRow base e size v k xs) (hn0 : v = .slice none 0 0 ∨ 1 ≤ k) (ad : Addr) (m c : Nat) (news : List Value) (hx : a.eval x = .slice (some ad) m c) (hn : news.length = m * size)
    (hc : ∀ j u, news[j]? = some u → w.cell? (ad.add j) = some u) (h1c : ∀ u ∈ news, u.oneCell' = true) (hm : 1 ≤ m) (b1 : k + m ≤ maxLen) (b2 : (k + m) * bytes ≤ 140737488355328) (b3 : base ≤ w.heap.size)
    (hK : ∀ v' w', w'.ownsRow base e size v' (k + m) (xs ++ news) → w.grownBy w' v.ownBlock → (∀ (k : Nat) (u : Value) (tt : TypeId) (fr : Nat × Nat), w.heap[k]? = some (Obj.cells #[u] tt fr) → w'.heap[k]? = some (Obj.cells #[u] tt fr)) → wpListIn F n P ops Q rest (a.put o.dst v') w') :
    wpListIn F n P ops Q (o :: rest) a w := by
  refine wpListIn_plain hg fun K hK' => ?_
  obtain ⟨v', w', hrun, r1, r2, r3⟩ := run_append_own1 (P := P) w base t o.type e i z size bytes h1 h2 h3 h4 h5 h6 h7 v k xs hown hn0 ad m c news hn hc h1c hm b1 b2 b3
  unfold Oper.wpIn
  refine ⟨?_, ?_⟩
  · simp [Oper.about, hop, resolve, Target.leads, Sem.run_pure]
  · rw [Oper.semAt_plain F _ _ (by rw [hop]; intro c hc'; cases hc')]
    simp [execOp, hop, resolve, invoke, builtin, hs, hx, hrun, Result.andThen]
    exact hK' _ _ (hK v' w' r1 r2 r3)

theorem alloc4 (w : World) (a b c d : Obj) : ((((w.alloc a).alloc b).alloc c).alloc d).heap[w.heap.size]? = some a ∧ ((((w.alloc a).alloc b).alloc c).alloc d).heap[w.heap.size + 1]? = some b ∧ ((((w.alloc a).alloc b).alloc c).alloc d).heap[w.heap.size + 1 + 1]? = some c ∧
    ((((w.alloc a).alloc b).alloc c).alloc d).heap[w.heap.size + 1 + 1 + 1]? = some d ∧ Below w.heap.size w ((((w.alloc a).alloc b).alloc c).alloc d) := by
  obtain ⟨h1, h2, h3, h4⟩ := alloc3 w a b c
  refine ⟨(Below.heap_alloc _ _ _ (by simp <;> omega)).trans h1, (Below.heap_alloc _ _ _ (by simp <;> omega)).trans h2, (Below.heap_alloc _ _ _ (by simp)).trans h3, ?_, h4.alloc (by simp; omega) _⟩
  have := heap_new (((w.alloc a).alloc b).alloc c) d
  rwa [World.size_alloc, World.size_alloc, World.size_alloc] at this
theorem KeepC.cell {n₀ m : Nat} {W W' : World} (h : KeepC n₀ m W W') {k : Nat} {v : Value} {t : TypeId} (hk : m ≤ k) (hc : W.heap[k]? = some (.cells #[v] t (0, 0))) : W'.cell? ⟨k, 0, none⟩ = some v := (blk_cell (h.cells k _ _ _ hk hc) 0).trans rfl

/-- A post of one's own for a piece of code: it ends, in a frame that is named, with P'. -/
def CutPost {β : Type} (P' : β → World → Prop) (a' : β → Act) : Exit → Act → World → Prop
  | .normal, b, w' => ∃ x : β, b = a' x ∧ P' x w'
  | _, _, _ => False
/-- What goes on behind a piece of code is said once. -/
theorem region_cut {F : Fence} {n : Nat} {P : Program} {c : Code} {Q : Exit → Act → World → Prop} {a : Act} {w : World} {β : Type} (P' : β → World → Prop) (a' : β → Act)
    (h1 : c.wpIn F n P (CutPost P' a') a w) (h2 : ∀ x w', P' x w' → Q .normal (a' x) w') : c.wpIn F n P Q a w :=
  Code.wpIn_mono (fun e b w' h => by
    cases e with
    | normal => obtain ⟨x, rfl, hx⟩ := h; exact h2 x w' hx
    | _ => exact h.elim) h1

end Go.Proofs.Ytlopceimlipemaa.Rope
