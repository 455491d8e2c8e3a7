import Derived.Test.YtlopceimlipemaaRWalk
import Derived.Test.YtlopceimlipemaaRFWalk
import Derived.RangeFuncNested
namespace Go.Proofs.Ytlopceimlipemaa.Rope
open Go.RowKit Go.Proofs.YtlopceimlipemaaW.PrintWords Go.Proofs.YtlopceimlipemaaW.PrintLast Go.Proofs.YtlopceimlipemaaW.PrintMore Go.Shelf
set_option linter.unusedVariables false
set_option linter.unusedSimpArgs false
attribute [local go_sem] Oper.semAt_some

/-- The walk of each tree. -/
theorem walk_int (w0 : World) (lp m N B n : Nat) (J Jx : List (Int × Int) → World → Prop) (hJ : AbidesFrom B J)
    (hY : ∀ pre y W, J pre W → pre.length < N → YieldAt Fence.wide n Try.prog lp (enc2_int y) W fun e W' =>
      (e = .returned (.bool true) ∧ J (pre ++ [y]) W' ∧ KeepC w0.heap.size m W W') ∨ (e = .returned (.bool false) ∧ Jx (pre ++ [y]) W')) : ∀ t : Tr Int, Walks_int w0 lp m N J Jx t
  | .leaf xs => fun p f back pre W hC hB hm hj hN hf0 hf1 => callsIn_wide.1 (leafwalk_int w0 lp m N J Jx n B hJ hY p xs f back pre W hC hB hm hj hN hf0 (by have : (Tr.leaf xs).len = xs.length := rfl; omega))
  | .fork a b => forkwalk_int w0 lp m N B J Jx hJ a b (walk_int w0 lp m N B n J Jx hJ hY a) (walk_int w0 lp m N B n J Jx hJ hY b)
set_option maxRecDepth 100000 in
set_option maxHeartbeats 4000000 in
/-- The walk of nothing. -/
theorem nilwalk_int (f : Int) (back : Bool) (lp : Nat) (w : World) : Calls Try.prog 50 #[.pointer none, .int .i64 f, .bool back, .func (.yield lp) #[] #[]] w fun e w' => e = .returned (.bool true) ∧ Below w.heap.size w w' ∧ w.grownBy w' none := by
  obtain ⟨k0, k1, k2, k3, hb4⟩ := alloc4 w (.cells #[.pointer none] 24) (.cells #[.int .i64 f] 3) (.cells #[.bool back] 4) (.cells #[.func (.yield lp) #[] #[]] 44)
  have HB4 := Aside0.mk hb4
  have c0 := (blk_cell k0 0).trans rfl
  clear k0 k1 k2 k3 hb4
  go_enter Try.func50, Try.ntmps50
  go_wp2
  go_ret
  exact ⟨rfl, HB4.out, (((World.grownBy_alloc w _ none).trans (World.grownBy_alloc _ _ none)).trans (World.grownBy_alloc _ _ none)).trans (World.grownBy_alloc _ _ none)⟩
set_option maxRecDepth 100000 in
set_option maxHeartbeats 4000000 in
theorem All_int.calls (p : Option Addr) (w : World) : Calls Try.prog 13 #[.agg #[.pointer p]] w fun e w' => e = .returned (.func (.func 49) #[] #[.pointer (some ⟨w.heap.size, 0, none⟩)]) ∧ w' = w.alloc (.cells #[.pointer p] 26) := by
  go_enter Try.func13, Try.ntmps13
  go_wp2
  go_ret
  exact ⟨rfl, rfl⟩
set_option maxRecDepth 100000 in
set_option maxHeartbeats 4000000 in
theorem All_stops_int (n : Nat) (w0 w : World) (hB : Below w0.heap.size w0 w) (Bl : Nat) (p : Option Addr) (t : Option (Tr Int)) (hC : IsO K_int w0 p t) (hs : lenO t ≤ 4611686018427387904)
    (hl : w.cell? ⟨Bl, 0, none⟩ = some (.pointer p)) :
    SeqStopsK Fence.wide n Try.prog 49 #[.pointer (some ⟨Bl, 0, none⟩)] enc2_int (KeepC w0.heap.size w.heap.size) (fun ys => ys = itemsO_int 0 false t) (fun pre => pre <+: itemsO_int 0 false t) (lenO t) w := by
  intro lp J Jx W hW hJ hJx hY h0
  have hlt : Bl < w.heap.size := World.block_lt_of_cell? w ⟨Bl, 0, none⟩ hl
  have hlW : W.cell? ⟨Bl, 0, none⟩ = some (.pointer p) := (hW.cell (p := ⟨Bl, 0, none⟩) hlt).trans hl
  refine callsIn_wide.2 ?_
  cases t with
  | none =>
    obtain rfl : p = none := hC
    go_enter Try.func49, Try.ntmps49
    go_wp2_with fail
    refine (nilwalk_int 0 false _ W).mono ?_
    rintro e W2 ⟨rfl, hb, hg⟩
    have H2 := Aside0.mk (hJ _ W W2 none h0 hg (fun r e => by cases e))
    clear hb hg h0
    go_wp2
    go_end0
    exact ⟨⟨_, rfl⟩, .inl ⟨[], by simp [itemsO_int, items_int, listO, idx_int], H2.out⟩⟩
  | some t =>
    have hcall := walk_int w0 lp w.heap.size t.len W.heap.size (n - 1) J Jx hJ hY t p 0 false [] W hC (hB.trans (hW.mono hB.size)) hW.size h0 (by simp) (by omega) (by have : lenO (some t) = t.len := rfl; omega)
    go_enter Try.func49, Try.ntmps49
    go_wp2_with fail
    refine hcall.mono ?_
    clear hcall
    rintro e W3 (⟨rfl, hJ3, _⟩ | ⟨rfl, q, hq, hJ3⟩)
    · have HZ := Aside0.mk hJ3
      clear hJ3
      go_wp2
      go_end0
      exact ⟨⟨_, rfl⟩, .inl ⟨_, rfl, by simpa [itemsO_int, listO] using HZ.out⟩⟩
    · have HZ := Aside0.mk hJ3
      have HQ := Aside0.mk hq
      clear hJ3 hq
      go_wp2
      go_end0
      exact ⟨⟨_, rfl⟩, .inr ⟨q, HQ.out, by simpa using HZ.out⟩⟩
theorem entersAll_int : ∀ args w, (callFunc 49 args).run Try.prog w = .ok (.enter 49 args) w := enters_of Try.func49 (by kernel_rfl) rfl
/-- 'for i, x := range r.All() { .. }'. -/
theorem rangeAll_int {p1 p2 : Tmp} {g : Operand} {assign body : Code} {Q : Exit → Act → World → Prop} {a : Act} {w : World}
    (w0 : World) (hB : Below w0.heap.size w0 w) (Bl : Nat) (p : Option Addr) (t : Option (Tr Int)) (hC : IsO K_int w0 p t) (hs : lenO t ≤ 4611686018427387904)
    (hl : w.cell? ⟨Bl, 0, none⟩ = some (.pointer p)) (hg : a.eval g = .func (.func 49) #[] #[.pointer (some ⟨Bl, 0, none⟩)])
    (I : List (Int × Int) → World → Prop) (Ix : Code → List (Int × Int) → World → Prop) (hI : OwnFrom w.heap.size I) (hIx : ∀ c, OwnFrom w.heap.size (Ix c)) (h0 : I [] w) (a₁ : Int × Int → Act)
    (hassign : ∀ (lp : Nat) (x : Int × Int) (W : World) (K : Act → World → Prop), K (a₁ x) W →
      assign.wpIn (Fence.wide.inRound lp) 7 Try.prog (Exit.then K (fun _ _ _ => False)) { tmps := (a.tmps.setIfInBounds p1 (.int .i64 x.1)).setIfInBounds p2 (((.int .i64 : Int → Value)) x.2), defers := [] } W)
    (hbody : ∀ (lp : Nat) (pre : List (Int × Int)) (x : Int × Int) (W : World), I pre W → pre.length < lenO t →
      body.wpIn (Fence.wide.inRound lp) 7 Try.prog (ownPostK (KeepC w0.heap.size w.heap.size) I Ix (pre ++ [x]) W) (a₁ x) W)
    (hdone : ∀ (D : Nat) (W : World), w.heap.size ≤ D → I (itemsO_int 0 false t) W → W.heap[D]? = some (.deferred (some [])) →
      Q .normal { a with defers := { target := .collected D, args := #[] } :: a.defers } W)
    (hstop : ∀ (D : Nat) (c : Code) (pre : List (Int × Int)) (W : World), w.heap.size ≤ D → pre <+: itemsO_int 0 false t → Ix c pre W → W.heap[D]? = some (.deferred (some [])) →
      c.wp Try.prog Q { a with defers := { target := .collected D, args := #[] } :: a.defers } W) :
    (Code.rangeFunc g #[p1, p2] assign body).wp Try.prog Q a w :=
  wpIn_wide.1 (wpIn_rangeFunc_ownF (n := 9) rfl (by omega) hg trivial entersAll_int (All_stops_int 8 w0 w hB Bl p t hC hs hl) KeepC.trans
    (fun W k o o' hk ho hc hw => KeepC.put W k o o' (Nat.le_trans hB.size hk) ho hc) (Below.refl _ _) (fun _ => rfl) I Ix hI hIx h0 a₁
    (fun lp x W K hK => by have := hassign lp x W K hK; simpa [enc2_int] using this) hbody (fun D xs W hD hS hi hk => by subst hS; exact hdone D W hD hi hk) (fun D c pre W hD hp hx hk => wpIn_wide.2 (hstop D c pre W hD hp hx hk)))
/-- The same, where the body may call and the assignment may lay blocks. -/
theorem rangeAllH_int {p1 p2 : Tmp} {g : Operand} {assign body : Code} {Q : Exit → Act → World → Prop} {a : Act} {w : World}
    (w0 : World) (hB : Below w0.heap.size w0 w) (Bl : Nat) (p : Option Addr) (t : Option (Tr Int)) (hC : IsO K_int w0 p t) (hs : lenO t ≤ 4611686018427387904)
    (hl : w.cell? ⟨Bl, 0, none⟩ = some (.pointer p)) (hg : a.eval g = .func (.func 49) #[] #[.pointer (some ⟨Bl, 0, none⟩)])
    (I : List (Int × Int) → World → Prop) (Ix : Code → List (Int × Int) → World → Prop) (hI : OwnFrom w.heap.size I) (hIx : ∀ c, OwnFrom w.heap.size (Ix c)) (h0 : I [] w)
    (Ax : Int × Int → Act → World → Prop) (hAx : ∀ x a', OwnFrom w.heap.size (fun (_ : Unit) W => Ax x a' W))
    (hassign : ∀ (lp : Nat) (pre : List (Int × Int)) (x : Int × Int) (W : World) (K : Act → World → Prop), I pre W →
      (∀ a' W', KeepsFrom w.heap.size W W' → KeepC w0.heap.size w.heap.size W W' → I pre W' → Ax x a' W' → K a' W') →
      assign.wpIn (Fence.wide.inRound lp) 7 Try.prog (Exit.then K (fun _ _ _ => False)) { tmps := (a.tmps.setIfInBounds p1 (.int .i64 x.1)).setIfInBounds p2 (((.int .i64 : Int → Value)) x.2), defers := [] } W)
    (hbody : ∀ (lp : Nat) (pre : List (Int × Int)) (x : Int × Int) (a' : Act) (W : World), I pre W → Ax x a' W → pre.length < lenO t →
      body.wpIn (Fence.wide.inRound lp) 7 Try.prog (ownPostG w.heap.size (KeepC w0.heap.size w.heap.size) I Ix (pre ++ [x]) W) a' W)
    (hdone : ∀ (D : Nat) (W : World), w.heap.size ≤ D → I (itemsO_int 0 false t) W → W.heap[D]? = some (.deferred (some [])) →
      Q .normal { a with defers := { target := .collected D, args := #[] } :: a.defers } W)
    (hstop : ∀ (D : Nat) (c : Code) (pre : List (Int × Int)) (W : World), w.heap.size ≤ D → pre <+: itemsO_int 0 false t → Ix c pre W → W.heap[D]? = some (.deferred (some [])) →
      c.wp Try.prog Q { a with defers := { target := .collected D, args := #[] } :: a.defers } W) :
    (Code.rangeFunc g #[p1, p2] assign body).wp Try.prog Q a w :=
  wpIn_wide.1 (wpIn_rangeFunc_ownH (n := 9) rfl (by omega) hg trivial entersAll_int (All_stops_int 8 w0 w hB Bl p t hC hs hl) KeepC.trans
    (fun W k o o' hk ho hc hw => KeepC.put W k o o' (Nat.le_trans hB.size hk) ho hc) (Below.refl _ _) (fun _ => rfl) I Ix hI hIx h0 Ax hAx
    (fun lp pre x W K hi hK => by have := hassign lp pre x W K hi hK; simpa [enc2_int] using this) (fun lp pre x a' W _ _ hi hx hl => hbody lp pre x a' W hi hx hl) (fun D xs W hD hS hi hk => by subst hS; exact hdone D W hD hi hk) (fun D c pre W hD hp hx hk => wpIn_wide.2 (hstop D c pre W hD hp hx hk)))

end Go.Proofs.Ytlopceimlipemaa.Rope

namespace Go.Proofs.Ytlopceimlipemaa.Rope
open Go.RowKit Go.Proofs.YtlopceimlipemaaW.PrintWords Go.Proofs.YtlopceimlipemaaW.PrintLast Go.Proofs.YtlopceimlipemaaW.PrintMore Go.Shelf
set_option linter.unusedVariables false
set_option linter.unusedSimpArgs false
attribute [local go_sem] Oper.semAt_some

/-- The walk of each tree. -/
theorem walk_string (w0 : World) (lp m N B n : Nat) (J Jx : List (Int × ByteArray) → World → Prop) (hJ : AbidesFrom B J)
    (hY : ∀ pre y W, J pre W → pre.length < N → YieldAt Fence.wide n Try.prog lp (enc2_string y) W fun e W' =>
      (e = .returned (.bool true) ∧ J (pre ++ [y]) W' ∧ KeepC w0.heap.size m W W') ∨ (e = .returned (.bool false) ∧ Jx (pre ++ [y]) W')) : ∀ t : Tr ByteArray, Walks_string w0 lp m N J Jx t
  | .leaf xs => fun p f back pre W hC hB hm hj hN hf0 hf1 => callsIn_wide.1 (leafwalk_string w0 lp m N J Jx n B hJ hY p xs f back pre W hC hB hm hj hN hf0 (by have : (Tr.leaf xs).len = xs.length := rfl; omega))
  | .fork a b => forkwalk_string w0 lp m N B J Jx hJ a b (walk_string w0 lp m N B n J Jx hJ hY a) (walk_string w0 lp m N B n J Jx hJ hY b)
set_option maxRecDepth 100000 in
set_option maxHeartbeats 4000000 in
/-- The walk of nothing. -/
theorem nilwalk_string (f : Int) (back : Bool) (lp : Nat) (w : World) : Calls Try.prog 81 #[.pointer none, .int .i64 f, .bool back, .func (.yield lp) #[] #[]] w fun e w' => e = .returned (.bool true) ∧ Below w.heap.size w w' ∧ w.grownBy w' none := by
  obtain ⟨k0, k1, k2, k3, hb4⟩ := alloc4 w (.cells #[.pointer none] 72) (.cells #[.int .i64 f] 3) (.cells #[.bool back] 4) (.cells #[.func (.yield lp) #[] #[]] 117)
  have HB4 := Aside0.mk hb4
  have c0 := (blk_cell k0 0).trans rfl
  clear k0 k1 k2 k3 hb4
  go_enter Try.func81, Try.ntmps81
  go_wp2
  go_ret
  exact ⟨rfl, HB4.out, (((World.grownBy_alloc w _ none).trans (World.grownBy_alloc _ _ none)).trans (World.grownBy_alloc _ _ none)).trans (World.grownBy_alloc _ _ none)⟩
set_option maxRecDepth 100000 in
set_option maxHeartbeats 4000000 in
theorem All_string.calls (p : Option Addr) (w : World) : Calls Try.prog 67 #[.agg #[.pointer p]] w fun e w' => e = .returned (.func (.func 80) #[] #[.pointer (some ⟨w.heap.size, 0, none⟩)]) ∧ w' = w.alloc (.cells #[.pointer p] 74) := by
  go_enter Try.func67, Try.ntmps67
  go_wp2
  go_ret
  exact ⟨rfl, rfl⟩
set_option maxRecDepth 100000 in
set_option maxHeartbeats 4000000 in
theorem All_stops_string (n : Nat) (w0 w : World) (hB : Below w0.heap.size w0 w) (Bl : Nat) (p : Option Addr) (t : Option (Tr ByteArray)) (hC : IsO K_string w0 p t) (hs : lenO t ≤ 4611686018427387904)
    (hl : w.cell? ⟨Bl, 0, none⟩ = some (.pointer p)) :
    SeqStopsK Fence.wide n Try.prog 80 #[.pointer (some ⟨Bl, 0, none⟩)] enc2_string (KeepC w0.heap.size w.heap.size) (fun ys => ys = itemsO_string 0 false t) (fun pre => pre <+: itemsO_string 0 false t) (lenO t) w := by
  intro lp J Jx W hW hJ hJx hY h0
  have hlt : Bl < w.heap.size := World.block_lt_of_cell? w ⟨Bl, 0, none⟩ hl
  have hlW : W.cell? ⟨Bl, 0, none⟩ = some (.pointer p) := (hW.cell (p := ⟨Bl, 0, none⟩) hlt).trans hl
  refine callsIn_wide.2 ?_
  cases t with
  | none =>
    obtain rfl : p = none := hC
    go_enter Try.func80, Try.ntmps80
    go_wp2_with fail
    refine (nilwalk_string 0 false _ W).mono ?_
    rintro e W2 ⟨rfl, hb, hg⟩
    have H2 := Aside0.mk (hJ _ W W2 none h0 hg (fun r e => by cases e))
    clear hb hg h0
    go_wp2
    go_end0
    exact ⟨⟨_, rfl⟩, .inl ⟨[], by simp [itemsO_string, items_string, listO, idx_string], H2.out⟩⟩
  | some t =>
    have hcall := walk_string w0 lp w.heap.size t.len W.heap.size (n - 1) J Jx hJ hY t p 0 false [] W hC (hB.trans (hW.mono hB.size)) hW.size h0 (by simp) (by omega) (by have : lenO (some t) = t.len := rfl; omega)
    go_enter Try.func80, Try.ntmps80
    go_wp2_with fail
    refine hcall.mono ?_
    clear hcall
    rintro e W3 (⟨rfl, hJ3, _⟩ | ⟨rfl, q, hq, hJ3⟩)
    · have HZ := Aside0.mk hJ3
      clear hJ3
      go_wp2
      go_end0
      exact ⟨⟨_, rfl⟩, .inl ⟨_, rfl, by simpa [itemsO_string, listO] using HZ.out⟩⟩
    · have HZ := Aside0.mk hJ3
      have HQ := Aside0.mk hq
      clear hJ3 hq
      go_wp2
      go_end0
      exact ⟨⟨_, rfl⟩, .inr ⟨q, HQ.out, by simpa using HZ.out⟩⟩
theorem entersAll_string : ∀ args w, (callFunc 80 args).run Try.prog w = .ok (.enter 80 args) w := enters_of Try.func80 (by kernel_rfl) rfl
/-- 'for i, x := range r.All() { .. }'. -/
theorem rangeAll_string {p1 p2 : Tmp} {g : Operand} {assign body : Code} {Q : Exit → Act → World → Prop} {a : Act} {w : World}
    (w0 : World) (hB : Below w0.heap.size w0 w) (Bl : Nat) (p : Option Addr) (t : Option (Tr ByteArray)) (hC : IsO K_string w0 p t) (hs : lenO t ≤ 4611686018427387904)
    (hl : w.cell? ⟨Bl, 0, none⟩ = some (.pointer p)) (hg : a.eval g = .func (.func 80) #[] #[.pointer (some ⟨Bl, 0, none⟩)])
    (I : List (Int × ByteArray) → World → Prop) (Ix : Code → List (Int × ByteArray) → World → Prop) (hI : OwnFrom w.heap.size I) (hIx : ∀ c, OwnFrom w.heap.size (Ix c)) (h0 : I [] w) (a₁ : Int × ByteArray → Act)
    (hassign : ∀ (lp : Nat) (x : Int × ByteArray) (W : World) (K : Act → World → Prop), K (a₁ x) W →
      assign.wpIn (Fence.wide.inRound lp) 7 Try.prog (Exit.then K (fun _ _ _ => False)) { tmps := (a.tmps.setIfInBounds p1 (.int .i64 x.1)).setIfInBounds p2 ((Value.string) x.2), defers := [] } W)
    (hbody : ∀ (lp : Nat) (pre : List (Int × ByteArray)) (x : Int × ByteArray) (W : World), I pre W → pre.length < lenO t →
      body.wpIn (Fence.wide.inRound lp) 7 Try.prog (ownPostK (KeepC w0.heap.size w.heap.size) I Ix (pre ++ [x]) W) (a₁ x) W)
    (hdone : ∀ (D : Nat) (W : World), w.heap.size ≤ D → I (itemsO_string 0 false t) W → W.heap[D]? = some (.deferred (some [])) →
      Q .normal { a with defers := { target := .collected D, args := #[] } :: a.defers } W)
    (hstop : ∀ (D : Nat) (c : Code) (pre : List (Int × ByteArray)) (W : World), w.heap.size ≤ D → pre <+: itemsO_string 0 false t → Ix c pre W → W.heap[D]? = some (.deferred (some [])) →
      c.wp Try.prog Q { a with defers := { target := .collected D, args := #[] } :: a.defers } W) :
    (Code.rangeFunc g #[p1, p2] assign body).wp Try.prog Q a w :=
  wpIn_wide.1 (wpIn_rangeFunc_ownF (n := 9) rfl (by omega) hg trivial entersAll_string (All_stops_string 8 w0 w hB Bl p t hC hs hl) KeepC.trans
    (fun W k o o' hk ho hc hw => KeepC.put W k o o' (Nat.le_trans hB.size hk) ho hc) (Below.refl _ _) (fun _ => rfl) I Ix hI hIx h0 a₁
    (fun lp x W K hK => by have := hassign lp x W K hK; simpa [enc2_string] using this) hbody (fun D xs W hD hS hi hk => by subst hS; exact hdone D W hD hi hk) (fun D c pre W hD hp hx hk => wpIn_wide.2 (hstop D c pre W hD hp hx hk)))
/-- The same, where the body may call and the assignment may lay blocks. -/
theorem rangeAllH_string {p1 p2 : Tmp} {g : Operand} {assign body : Code} {Q : Exit → Act → World → Prop} {a : Act} {w : World}
    (w0 : World) (hB : Below w0.heap.size w0 w) (Bl : Nat) (p : Option Addr) (t : Option (Tr ByteArray)) (hC : IsO K_string w0 p t) (hs : lenO t ≤ 4611686018427387904)
    (hl : w.cell? ⟨Bl, 0, none⟩ = some (.pointer p)) (hg : a.eval g = .func (.func 80) #[] #[.pointer (some ⟨Bl, 0, none⟩)])
    (I : List (Int × ByteArray) → World → Prop) (Ix : Code → List (Int × ByteArray) → World → Prop) (hI : OwnFrom w.heap.size I) (hIx : ∀ c, OwnFrom w.heap.size (Ix c)) (h0 : I [] w)
    (Ax : Int × ByteArray → Act → World → Prop) (hAx : ∀ x a', OwnFrom w.heap.size (fun (_ : Unit) W => Ax x a' W))
    (hassign : ∀ (lp : Nat) (pre : List (Int × ByteArray)) (x : Int × ByteArray) (W : World) (K : Act → World → Prop), I pre W →
      (∀ a' W', KeepsFrom w.heap.size W W' → KeepC w0.heap.size w.heap.size W W' → I pre W' → Ax x a' W' → K a' W') →
      assign.wpIn (Fence.wide.inRound lp) 7 Try.prog (Exit.then K (fun _ _ _ => False)) { tmps := (a.tmps.setIfInBounds p1 (.int .i64 x.1)).setIfInBounds p2 ((Value.string) x.2), defers := [] } W)
    (hbody : ∀ (lp : Nat) (pre : List (Int × ByteArray)) (x : Int × ByteArray) (a' : Act) (W : World), I pre W → Ax x a' W → pre.length < lenO t →
      body.wpIn (Fence.wide.inRound lp) 7 Try.prog (ownPostG w.heap.size (KeepC w0.heap.size w.heap.size) I Ix (pre ++ [x]) W) a' W)
    (hdone : ∀ (D : Nat) (W : World), w.heap.size ≤ D → I (itemsO_string 0 false t) W → W.heap[D]? = some (.deferred (some [])) →
      Q .normal { a with defers := { target := .collected D, args := #[] } :: a.defers } W)
    (hstop : ∀ (D : Nat) (c : Code) (pre : List (Int × ByteArray)) (W : World), w.heap.size ≤ D → pre <+: itemsO_string 0 false t → Ix c pre W → W.heap[D]? = some (.deferred (some [])) →
      c.wp Try.prog Q { a with defers := { target := .collected D, args := #[] } :: a.defers } W) :
    (Code.rangeFunc g #[p1, p2] assign body).wp Try.prog Q a w :=
  wpIn_wide.1 (wpIn_rangeFunc_ownH (n := 9) rfl (by omega) hg trivial entersAll_string (All_stops_string 8 w0 w hB Bl p t hC hs hl) KeepC.trans
    (fun W k o o' hk ho hc hw => KeepC.put W k o o' (Nat.le_trans hB.size hk) ho hc) (Below.refl _ _) (fun _ => rfl) I Ix hI hIx h0 Ax hAx
    (fun lp pre x W K hi hK => by have := hassign lp pre x W K hi hK; simpa [enc2_string] using this) (fun lp pre x a' W _ _ hi hx hl => hbody lp pre x a' W hi hx hl) (fun D xs W hD hS hi hk => by subst hS; exact hdone D W hD hi hk) (fun D c pre W hD hp hx hk => wpIn_wide.2 (hstop D c pre W hD hp hx hk)))

end Go.Proofs.Ytlopceimlipemaa.Rope
