/- The parser's state in general: the list, the open brackets, each with rows of its own. -/
import Derived.Test.YtjhjhhibbmligaaOTEPa
import Derived.Lib.BufferMore
import Derived.Deep.LoopGhost
section
namespace Go.Proofs.Ytjhjhhibbmligaa.TE
open Go.RowKit Go.Shelf Go.Proofs.YtjhjhhibbmligaaW.PrintWords Go.Proofs.YtjhjhhibbmligaaW.PrintLast Go.Proofs.YtjhjhhibbmligaaW.PrintMore Go.Proofs.Ytjhjhhibbmligaa.Evs
set_option linter.unusedVariables false
set_option linter.unusedSimpArgs false
theorem grown_da (w : World) (o : Obj) : w.grownBy (w.drew.alloc o) none := by
  have h := World.grownBy_alloc w.drew o none; exact ⟨h.os, h.tape, h.output, h.size, h.block⟩
theorem zero_at (w : World) : ∀ j u, ([.int .i64 0, .string ⟨#[]⟩, .slice none 0 0] : List Value)[j]? = some u → (w.drew.alloc (.cells #[.int .i64 0, .string ⟨#[]⟩, .slice none 0 0] 42)).cell? ((⟨w.heap.size, 0, none⟩ : Addr).add j) = some u := by
  intro j u hj; rw [add_plain]; refine (q4 (World.alloc_heap_new w.drew _) j).trans ?_
  match j, hj with
  | 0, hj => exact hj
  | 1, hj => exact hj
  | 2, hj => exact hj
theorem new_own {W : World} {v : Value} {b5 n c5 : Nat} (h : some b5 = v.ownBlock ∨ W.heap.size ≤ b5) : ∀ b, (Value.slice (some ⟨b5, 0, none⟩) n c5).ownBlock = some b → v.ownBlock = some b ∨ W.heap.size ≤ b := by
  intro b hb
  obtain rfl : b5 = b := by simpa [Value.ownBlock] using hb
  exact h.imp Eq.symm id
theorem add_finA {W w5 : World} {g base n b5 c5 : Nat} {s : ByteArray} {at_ fault : Int} {v vs v6 t0 t1 t2 z0 z1 z2 : Value} {xs : List Value} (h6 : v6 = .bool true) (hp : Aside0 (Pz w5 g s at_ fault v vs)) (ho : Aside0 (w5.ownsRow base 42 3 (.slice (some ⟨b5, 0, none⟩) (n + 1) c5) (n + 1) (xs ++ [z0, z1, z2])))
    (hf : Aside0 (Fr W w5 (fun i => some i = v.ownBlock))) (hn : Aside0 (some b5 = v.ownBlock ∨ W.heap.size ≤ b5)) (hxs : xs.length = n * 3) (hgb : g ≠ b5) :
    Ending.returned v6 = .returned (.bool true) ∧ ∃ vl', Pz ((((w5.setCell ⟨b5, n * 3, none⟩ t0).setCell ⟨b5, n * 3 + 1, none⟩ t1).setCell ⟨b5, n * 3 + 2, none⟩ t2).setCell ⟨g, 3, none⟩ (.slice (some ⟨b5, 0, none⟩) (n + 1) c5)) g s at_ fault vl' vs ∧
      ((((w5.setCell ⟨b5, n * 3, none⟩ t0).setCell ⟨b5, n * 3 + 1, none⟩ t1).setCell ⟨b5, n * 3 + 2, none⟩ t2).setCell ⟨g, 3, none⟩ (.slice (some ⟨b5, 0, none⟩) (n + 1) c5)).ownsRow base 42 3 vl' (n + 1) (xs ++ [t0, t1, t2]) ∧ (∀ b, vl'.ownBlock = some b → v.ownBlock = some b ∨ W.heap.size ≤ b) ∧
      Fr W ((((w5.setCell ⟨b5, n * 3, none⟩ t0).setCell ⟨b5, n * 3 + 1, none⟩ t1).setCell ⟨b5, n * 3 + 2, none⟩ t2).setCell ⟨g, 3, none⟩ (.slice (some ⟨b5, 0, none⟩) (n + 1) c5)) (fun i => i = g ∨ some i = v.ownBlock) := by
  obtain ⟨h1, h2⟩ := row_stored t0 t1 t2 ho.out hxs; refine ⟨by rw [h6], _, (((hp.out.far b5 _ _ hgb).far b5 _ _ hgb).far b5 _ _ hgb).setList _, own_far h1 g 3 _ ?_, new_own hn.out, fin_fr hf.out hn.out h2 (grown_set _ g 3 _)⟩; simp [Value.ownBlock]; exact hgb
theorem add_finB {W w5 : World} {g base n b5 c5 : Nat} {s : ByteArray} {at_ fault : Int} {v vs v6 t0 t1 t2 z0 z1 z2 : Value} {xs : List Value} (h6 : v6 = .bool true) (hp : Aside0 (Pz w5 g s at_ fault v vs)) (ho : Aside0 (w5.ownsRow base 42 3 (.slice (some ⟨b5, 0, none⟩) (n + 1) c5) (n + 1) (xs ++ [z0, z1, z2])))
    (hf : Aside0 (Fr W w5 (fun i => some i = v.ownBlock))) (hn : Aside0 (some b5 = v.ownBlock ∨ W.heap.size ≤ b5)) (hxs : xs.length = n * 3) (hgb : g ≠ b5) :
    Ending.returned v6 = .returned (.bool true) ∧ ∃ vl', Pz ((((w5.setCell ⟨g, 3, none⟩ (.slice (some ⟨b5, 0, none⟩) (n + 1) c5)).setCell ⟨b5, n * 3, none⟩ t0).setCell ⟨b5, n * 3 + 1, none⟩ t1).setCell ⟨b5, n * 3 + 2, none⟩ t2) g s at_ fault vl' vs ∧
      ((((w5.setCell ⟨g, 3, none⟩ (.slice (some ⟨b5, 0, none⟩) (n + 1) c5)).setCell ⟨b5, n * 3, none⟩ t0).setCell ⟨b5, n * 3 + 1, none⟩ t1).setCell ⟨b5, n * 3 + 2, none⟩ t2).ownsRow base 42 3 vl' (n + 1) (xs ++ [t0, t1, t2]) ∧ (∀ b, vl'.ownBlock = some b → v.ownBlock = some b ∨ W.heap.size ≤ b) ∧
      Fr W ((((w5.setCell ⟨g, 3, none⟩ (.slice (some ⟨b5, 0, none⟩) (n + 1) c5)).setCell ⟨b5, n * 3, none⟩ t0).setCell ⟨b5, n * 3 + 1, none⟩ t1).setCell ⟨b5, n * 3 + 2, none⟩ t2) (fun i => i = g ∨ some i = v.ownBlock) := by
  have hgo : some g ≠ (Value.slice (some ⟨b5, 0, none⟩) (n + 1) c5).ownBlock := by simp [Value.ownBlock]; exact hgb
  obtain ⟨h1, h2⟩ := row_stored t0 t1 t2 (own_far ho.out g 3 (.slice (some ⟨b5, 0, none⟩) (n + 1) c5) hgo) hxs; exact ⟨by rw [h6], _, (((hp.out.setList _).far b5 _ _ hgb).far b5 _ _ hgb).far b5 _ _ hgb, h1, new_own hn.out, fin_fr2 hf.out hn.out (grown_set _ g 3 _) h2⟩
set_option maxRecDepth 100000 in
set_option maxHeartbeats 4000000 in
theorem add1.calls (g base : Nat) (s : ByteArray) (at_ fault x : Int) (vl vs : Value) (n : Nat) (xs : List Value) (k : Int) (tx : ByteArray) (A : Option Addr) (c : Nat) (l : List Tm) (kk : Nat) (W : World) (h : Pz W g s at_ fault vl vs) (ho : W.ownsRow base 42 3 vl n xs) (hb : base ≤ g) (hn8 : n ≤ 1099511627776) (hxs : xs.length = n * 3) (hC : Kd.C k42 W A l.length l) (hc : l.length ≤ c)
    (hr : term_right.f kk k tx l = some true) :
    Calls Try.prog 159 #[.pointer (some ⟨g, 0, none⟩), .agg #[.int .i64 k, .string tx, .slice A l.length c], .int .i64 x] W fun e W' => e = .returned (.bool true) ∧ ∃ vl', Pz W' g s at_ fault vl' vs ∧ W'.ownsRow base 42 3 vl' (n + 1) (xs ++ [.int .i64 k, .string tx, .slice A l.length c]) ∧ (∀ b, vl'.ownBlock = some b → vl.ownBlock = some b ∨ W.heap.size ≤ b) ∧ Fr W W' (fun i => i = g ∨ some i = vl.ownBlock) := by
  have hbl : Below W.heap.size W (W.alloc (.cells #[.int .i64 k, .string tx, .slice A l.length c] 42)) := (Below.refl _ _).alloc (Nat.le_refl _) _; have hn0 := World.alloc_heap_new W (.cells #[.int .i64 k, .string tx, .slice A l.length c] 42); obtain ⟨W0, hW0⟩ : ∃ W0, W.alloc (.cells #[.int .i64 k, .string tx, .slice A l.length c] 42) = W0 := ⟨_, rfl⟩; have HW0 := Aside0.mk hW0; rw [hW0] at hbl hn0; have x0 : W0.cell? ⟨W.heap.size, 0, none⟩ = some (.int .i64 k) := (q4 hn0 0).trans rfl; have x1 : W0.cell? ⟨W.heap.size, 1, none⟩ = some (.string tx) := (q4 hn0 1).trans rfl; have x2 : W0.cell? ⟨W.heap.size, 2, none⟩ = some (.slice A l.length c) := (q4 hn0 2).trans rfl; have hp0 : Pz W0 g s at_ fault vl vs := (hbl.block g (Array.getElem?_eq_some_iff.1 h).1).trans h; have hcall := term_right.calls kk k tx A c l true W0 (Kd.C_below hC hbl) hc hr; have HCALL := Aside0.mk hcall; have HP0 := Aside0.mk hp0; have HBL := Aside0.mk hbl; have HN0 := Aside0.mk hn0; have HOW := Aside0.mk ho; clear hcall hp0 hbl hW0 hn0 hC ho h
  go_enter Try.func159, Try.ntmps159
  go_wp2_with fail
  rw [HW0.out]; refine HCALL.out.mono ?_; rintro e w1 ⟨rfl, hb1⟩; have HP1 := Aside0.mk (show Pz w1 g s at_ fault vl vs from (hb1.block g (Array.getElem?_eq_some_iff.1 HP0.out).1).trans HP0.out); have HB1 := Aside0.mk (HBL.out.trans (hb1.mono HBL.out.size)); have HX0 := (hb1.block _ (Array.getElem?_eq_some_iff.1 HN0.out).1).trans HN0.out; have HO1 := HOW.out; clear hb1; have hx0 : w1.heap[W.heap.size]? = some (.cells #[.int .i64 k, .string tx, .slice A l.length c] 42 (0, 0)) := HX0
  obtain ⟨av, cv, hvl⟩ : ∃ av cv, vl = .slice av n cv := by
    rcases HOW.out.2 with ⟨hv, h0⟩ | ⟨b, cap, cur, hv, _⟩
    · exact ⟨none, 0, by rw [hv, h0]⟩
    · exact ⟨_, _, hv⟩
  subst hvl; obtain ⟨p0, p1, p2, p3, p4⟩ := HP1.out.cells; have y0 : w1.cell? ⟨W.heap.size, 0, none⟩ = some (.int .i64 k) := (q4 hx0 0).trans rfl; have y1 : w1.cell? ⟨W.heap.size, 1, none⟩ = some (.string tx) := (q4 hx0 1).trans rfl; have y2 : w1.cell? ⟨W.heap.size, 2, none⟩ = some (.slice A l.length c) := (q4 hx0 2).trans rfl; have hgl : g < w1.heap.size := (Array.getElem?_eq_some_iff.1 HP1.out).1; have hwl : W.heap.size < w1.heap.size := (Array.getElem?_eq_some_iff.1 hx0).1; have HX0' := Aside0.mk hx0; clear hx0 p0 p1 p2 p4
  go_wp2_with fail
  obtain ⟨i0, hi, hz0, hz1, hz2⟩ := info_parts info_term
  have hnn : (n : Int) < (n : Int) + 1 := by omega
  have hnn0 : (0 : Int) ≤ (n : Int) := Int.natCast_nonneg _; have hbs : base ≤ w1.heap.size := Nat.le_trans hb (Nat.le_of_lt hgl); have HOA : Aside0 (w1.ownsRow base 42 3 (.slice av n cv) n xs) := ⟨own_below3 HOW.out HB1.out⟩
  go_region_law ((refine step_append_own2 _ rfl _ _ 22 rfl base 42 i0 (.agg #[.int .i64 0, .string ⟨#[]⟩, .slice none 0 0]) 3 48 Try.underlying22 hi hz0 hz1 hz2 rfl (by decide) _ _ _ rfl (HOA.out.drew.alloc _) ⟨w1.heap.size, 0, none⟩ 1 1 [.int .i64 0, .string ⟨#[]⟩, .slice none 0 0] rfl rfl (zero_at w1) (by simp [Value.oneCell']) (by simp only [maxLen]; omega) (by omega) (by simp; omega) ?_; intro v5 w5 hown5 hgrow5 hnew5; have HF5 := Aside0.mk (show Fr W w5 (fun i => some i = (Value.slice av n cv).ownBlock) from ((Fr.mk HB1.out.os HB1.out.tape HB1.out.output HB1.out.size (fun i hi _ => HB1.out.block i hi) : Fr W w1 _).trans (Fr.of_grown (row := none) (grown_da w1 (.cells #[.int .i64 0, .string ⟨#[]⟩, .slice none 0 0] 42)) (fun i e => nomatch e))).trans (Fr.of_grown hgrow5 (fun i e => e.symm))); obtain ⟨b5, c5, hv5⟩ : ∃ b5 c5, v5 = .slice (some ⟨b5, 0, none⟩) (n + 1) c5 := (by rcases hown5.2 with ⟨_, h0⟩ | ⟨b, cap, cur, hv, _⟩; (· omega); (· exact ⟨_, _, hv⟩)); subst hv5; obtain ⟨q0, q1, q2, r0, r1, r2⟩ := row_facts hown5 hxs; have HP5 : Pz w5 g s at_ fault (.slice av n cv) vs := Pz.grown (Pz.grown (show Pz w1.drew g s at_ fault (.slice av n cv) vs from HP1.out) (World.grownBy_alloc w1.drew (.cells #[.int .i64 0, .string ⟨#[]⟩, .slice none 0 0] 42) none) (by simp)) hgrow5 (own_ne HOA.out HP1.out); have hb5g : b5 ≠ g := (fun e => own_ne hown5 HP5 (by rw [e]; rfl)); have p53 := HP5.cells.2.2.2.1; have pf3 := HP5.fz 3; have HO5 := Aside0.mk hown5; have HG5 := Aside0.mk hgrow5; have HP5' := Aside0.mk HP5; have hgl5 : g < w5.heap.size := (Array.getElem?_eq_some_iff.1 HP5).1; have hgb : g ≠ b5 := hb5g.symm; have HNEW5 : Aside0 (some b5 = (Value.slice av n cv).ownBlock ∨ W.heap.size ≤ b5) := ⟨(hnew5 b5 rfl).imp Eq.symm (fun h => Nat.le_trans HB1.out.size (Nat.le_trans (by simp) h))⟩; clear hown5 hgrow5 HP5 hnew5 HG5))
  all_goals
    clear q0 q1 q2 r0 r1 r2 p53 pf3 p3 y0 y1 y2
    go_wp2
    go_ret
    first
    | (with_reducible refine add_finA ?_ HP5' HO5 HF5 HNEW5 hxs hgb)
    | (with_reducible refine add_finB ?_ HP5' HO5 HF5 HNEW5 hxs hgb)
    rfl
end Go.Proofs.Ytjhjhhibbmligaa.TE
namespace Go.Proofs.Ytjhjhhibbmligaa.TE
open Go.RowKit Go.Shelf Go.Proofs.YtjhjhhibbmligaaW.PrintWords Go.Proofs.YtjhjhhibbmligaaW.PrintLast Go.Proofs.YtjhjhhibbmligaaW.PrintMore Go.Proofs.Ytjhjhhibbmligaa.Evs
set_option linter.unusedVariables false
set_option linter.unusedSimpArgs false
theorem info_open : (Try.prog.info? 203).map (fun i => (i.zero, i.size, i.bytes)) = some (some (.agg #[.slice none 0 0, .int .i64 0, .string ⟨#[]⟩, .slice none 0 0]), 4, 72) := by kernel_rfl
theorem own_farG {w : World} {base n e z : Nat} {v : Value} {xs : List Value} (h : w.ownsRow base e z v n xs) (g i : Nat) (u : Value) (hne : some g ≠ v.ownBlock) : (w.setCell ⟨g, i, none⟩ u).ownsRow base e z v n xs := by
  obtain ⟨h1, h2⟩ := h; refine ⟨h1, ?_⟩
  rcases h2 with h2 | ⟨b, cap, cur, rfl, hb, hh, r⟩
  · exact .inl h2
  · exact .inr ⟨b, cap, cur, rfl, hb, (Below.heap_setCell w ⟨g, i, none⟩ u b (fun e => hne (by rw [show g = b from e.symm]; rfl))).trans hh, r⟩
theorem own_below4 {w W : World} {base n e z : Nat} {v : Value} {xs : List Value} (h : w.ownsRow base e z v n xs) (hb : Below w.heap.size w W) : W.ownsRow base e z v n xs := by
  obtain ⟨h1, h2⟩ := h; refine ⟨h1, ?_⟩
  rcases h2 with h2 | ⟨b, cap, cur, rfl, hbb, hh, r⟩
  · exact .inl h2
  · exact .inr ⟨b, cap, cur, rfl, hbb, (hb.block b (Array.getElem?_eq_some_iff.1 hh).1).trans hh, r⟩
theorem own_neG {w : World} {base n e z : Nat} {v : Value} {xs : List Value} {g : Nat} {s : ByteArray} {at_ fault : Int} {vl vs : Value} (h : w.ownsRow base e z v n xs) (he : e ≠ 142) (hp : Pz w g s at_ fault vl vs) : some g ≠ v.ownBlock := by
  rcases h.2 with ⟨rfl, _⟩ | ⟨b, cap, cur, rfl, _, hk, _⟩
  · simp [Value.ownBlock]
  · intro e
    obtain rfl : g = b := by simpa [Value.ownBlock] using e
    rw [show w.heap[g]? = _ from hp] at hk
    injection hk with hk
    injection hk with _ h2 _
    exact absurd h2.symm he
theorem begin_fin {W w5 : World} {g base n b5 c5 : Nat} {s : ByteArray} {at_ fault : Int} {v vl v6 : Value} {xs : List Value} (h6 : v6 = .bool true) (hp : Aside0 (Pz w5 g s at_ fault vl v)) (ho : Aside0 (w5.ownsRow base 203 4 (.slice (some ⟨b5, 0, none⟩) (n + 1) c5) (n + 1) xs))
    (hf : Aside0 (Fr W w5 (fun i => some i = v.ownBlock))) (hn : Aside0 (some b5 = v.ownBlock ∨ W.heap.size ≤ b5)) (hgb : g ≠ b5) :
    Ending.returned v6 = .returned (.bool true) ∧ ∃ vs', Pz ((w5.setCell ⟨g, 4, none⟩ (.slice (some ⟨b5, 0, none⟩) (n + 1) c5)).setCell ⟨g, 3, none⟩ (.slice none 0 0)) g s at_ fault (.slice none 0 0) vs' ∧
      ((w5.setCell ⟨g, 4, none⟩ (.slice (some ⟨b5, 0, none⟩) (n + 1) c5)).setCell ⟨g, 3, none⟩ (.slice none 0 0)).ownsRow base 203 4 vs' (n + 1) xs ∧ (∀ b, vs'.ownBlock = some b → v.ownBlock = some b ∨ W.heap.size ≤ b) ∧
      Fr W ((w5.setCell ⟨g, 4, none⟩ (.slice (some ⟨b5, 0, none⟩) (n + 1) c5)).setCell ⟨g, 3, none⟩ (.slice none 0 0)) (fun i => i = g ∨ some i = v.ownBlock) := by
  have hgo : some g ≠ (Value.slice (some ⟨b5, 0, none⟩) (n + 1) c5).ownBlock := by simp [Value.ownBlock]; exact hgb
  refine ⟨by rw [h6], _, (hp.out.setStack _).setList _, own_farG (own_farG ho.out g 4 _ hgo) g 3 _ hgo, new_own hn.out, ?_⟩; exact fr_step (T := fun i => i = g ∨ some i = v.ownBlock) (fr_step (T := fun i => i = g ∨ some i = v.ownBlock) hf.out (.inl (.inl rfl)) (grown_set _ g 4 _) (fun i e => .inr e)) (.inl (.inl rfl)) (grown_set _ g 3 _) (fun i e => e)
theorem open_at (w : World) (v x y z : Value) : ∀ j u, ([v, x, y, z] : List Value)[j]? = some u → (w.drew.alloc (.cells #[v, x, y, z] 203)).cell? ((⟨w.heap.size, 0, none⟩ : Addr).add j) = some u := by
  intro j u hj; rw [add_plain]; refine (q4 (World.alloc_heap_new w.drew _) j).trans ?_
  match j, hj with
  | 0, hj => exact hj
  | 1, hj => exact hj
  | 2, hj => exact hj
  | 3, hj => exact hj
set_option maxRecDepth 100000 in
set_option maxHeartbeats 4000000 in
theorem begin.calls (g base : Nat) (s : ByteArray) (at_ fault : Int) (av : Option Addr) (nv cv : Nat) (vs : Value) (n : Nat) (ys : List Value) (k : Int) (tx : ByteArray) (A : Option Addr) (m c : Nat) (W : World) (h : Pz W g s at_ fault (.slice av nv cv) vs) (ho : W.ownsRow base 203 4 vs n ys) (hb : base ≤ g) (hn8 : n ≤ 1099511627776) :
    Calls Try.prog 162 #[.pointer (some ⟨g, 0, none⟩), .agg #[.int .i64 k, .string tx, .slice A m c]] W fun e W' => e = .returned (.bool true) ∧ ∃ vs', Pz W' g s at_ fault (.slice none 0 0) vs' ∧ W'.ownsRow base 203 4 vs' (n + 1) (ys ++ [.slice av nv cv, .int .i64 k, .string tx, .slice A m c]) ∧ (∀ b, vs'.ownBlock = some b → vs.ownBlock = some b ∨ W.heap.size ≤ b) ∧ Fr W W' (fun i => i = g ∨ some i = vs.ownBlock) := by
  have hbl : Below W.heap.size W (W.alloc (.cells #[.int .i64 k, .string tx, .slice A m c] 42)) := (Below.refl _ _).alloc (Nat.le_refl _) _; have hn0 := World.alloc_heap_new W (.cells #[.int .i64 k, .string tx, .slice A m c] 42); obtain ⟨W0, hW0⟩ : ∃ W0, W.alloc (.cells #[.int .i64 k, .string tx, .slice A m c] 42) = W0 := ⟨_, rfl⟩; have HW0 := Aside0.mk hW0; rw [hW0] at hbl hn0; have x0 : W0.cell? ⟨W.heap.size, 0, none⟩ = some (.int .i64 k) := (q4 hn0 0).trans rfl; have x1 : W0.cell? ⟨W.heap.size, 1, none⟩ = some (.string tx) := (q4 hn0 1).trans rfl; have x2 : W0.cell? ⟨W.heap.size, 2, none⟩ = some (.slice A m c) := (q4 hn0 2).trans rfl; have hp0 : Pz W0 g s at_ fault (.slice av nv cv) vs := (hbl.block g (Array.getElem?_eq_some_iff.1 h).1).trans h; have HBL := Aside0.mk hbl
  obtain ⟨avs, cvs, hvs⟩ : ∃ avs cvs, vs = .slice avs n cvs := by
    rcases ho.2 with ⟨hv, h0⟩ | ⟨b, cap, cur, hv, _⟩
    · exact ⟨none, 0, by rw [hv, h0]⟩
    · exact ⟨_, _, hv⟩
  subst hvs; have HOA : Aside0 (W0.ownsRow base 203 4 (.slice avs n cvs) n ys) := ⟨own_below4 ho hbl⟩; obtain ⟨p0, p1, p2, p3, p4⟩ := hp0.cells; have pf3 := hp0.fz 3; have pf4 := hp0.fz 4; have HP0 := Aside0.mk hp0; have hgl : g < W0.heap.size := (Array.getElem?_eq_some_iff.1 hp0).1; have hbs : base ≤ W0.heap.size := Nat.le_trans hb (Nat.le_of_lt hgl); clear hbl hW0 hn0 ho h hp0 p0 p1 p2; obtain ⟨i0, hi, hz0, hz1, hz2⟩ := info_parts info_open
  go_enter Try.func162, Try.ntmps162
  go_wp2_with fail
  rw [HW0.out]; clear HW0
  go_region_law ((refine step_append_own2 _ rfl _ _ 140 rfl base 203 i0 (.agg #[.slice none 0 0, .int .i64 0, .string ⟨#[]⟩, .slice none 0 0]) 4 72 Try.underlying140 hi hz0 hz1 hz2 rfl (by decide) _ _ _ rfl (HOA.out.drew.alloc _) ⟨W0.heap.size, 0, none⟩ 1 1 [.slice av nv cv, .int .i64 k, .string tx, .slice A m c] rfl rfl (open_at W0 _ _ _ _) (by simp [Value.oneCell']) (by simp only [maxLen]; omega) (by omega) (by simp; omega) ?_; intro v5 w5 hown5 hgrow5 hnew5; have HF5 := Aside0.mk (show Fr W w5 (fun i => some i = (Value.slice avs n cvs).ownBlock) from ((Fr.mk HBL.out.os HBL.out.tape HBL.out.output HBL.out.size (fun i hi _ => HBL.out.block i hi) : Fr W W0 _).trans (Fr.of_grown (row := none) (grown_da W0 (.cells #[.slice av nv cv, .int .i64 k, .string tx, .slice A m c] 203)) (fun i e => nomatch e))).trans (Fr.of_grown hgrow5 (fun i e => e.symm))); obtain ⟨b5, c5, hv5⟩ : ∃ b5 c5, v5 = .slice (some ⟨b5, 0, none⟩) (n + 1) c5 := (by rcases hown5.2 with ⟨_, h0⟩ | ⟨b, cap, cur, hv, _⟩; (· omega); (· exact ⟨_, _, hv⟩)); subst hv5; have HP5 : Pz w5 g s at_ fault (.slice av nv cv) (.slice avs n cvs) := Pz.grown (Pz.grown (show Pz W0.drew g s at_ fault (.slice av nv cv) (.slice avs n cvs) from HP0.out) (World.grownBy_alloc W0.drew (.cells #[.slice av nv cv, .int .i64 k, .string tx, .slice A m c] 203) none) (by simp)) hgrow5 (own_neG HOA.out (by decide) HP0.out); have hb5g : b5 ≠ g := (fun e => own_neG hown5 (by decide) HP5 (by rw [e]; rfl)); have p54 := HP5.cells.2.2.2.2; have p53 := HP5.cells.2.2.2.1; have pf53 := HP5.fz 3; have pf54 := HP5.fz 4; have HO5 := Aside0.mk hown5; have HG5 := Aside0.mk hgrow5; have HP5' := Aside0.mk HP5; have hgl5 : g < w5.heap.size := (Array.getElem?_eq_some_iff.1 HP5).1; have hgb : g ≠ b5 := hb5g.symm; have HNEW5 : Aside0 (some b5 = (Value.slice avs n cvs).ownBlock ∨ W.heap.size ≤ b5) := ⟨(hnew5 b5 rfl).imp Eq.symm (fun h => Nat.le_trans HBL.out.size (Nat.le_trans (by simp) h))⟩; clear hown5 hgrow5 HP5 hnew5 HG5))
  all_goals
    clear x0 x1 x2 pf3 pf4 p3 p4 p54 pf54
    go_wp2
    go_ret
    (with_reducible refine begin_fin ?_ HP5' HO5 HF5 HNEW5 hgb)
    rfl
end Go.Proofs.Ytjhjhhibbmligaa.TE
end
section
namespace Go.Proofs.Ytjhjhhibbmligaa.TE
open Go.RowKit Go.Shelf Go.Proofs.YtjhjhhibbmligaaW.PrintWords Go.Proofs.YtjhjhhibbmligaaW.PrintLast Go.Proofs.YtjhjhhibbmligaaW.PrintMore Go.Proofs.Ytjhjhhibbmligaa.Evs
set_option linter.unusedVariables false
set_option linter.unusedSimpArgs false
theorem own_drop {w : World} {base n b c : Nat} {e z : Nat} {xs ys : List Value} (h : w.ownsRow base e z (.slice (some ⟨b, 0, none⟩) (n + 1) c) (n + 1) (xs ++ ys)) (hx : xs.length = n * z) : w.ownsRow base e z (.slice (some ⟨b, 0, none⟩) n c) n xs := by
  refine ⟨hx, .inr ?_⟩
  rcases h.2 with ⟨h1, _⟩ | ⟨g, cap, cur, h1, h2, h3, h4, h5, h6, h7⟩
  · simp at h1
  · have hc : c = cap := by injection h1
    have hb : b = g := by injection h1 with e1 _ _; injection e1 with e1; injection e1
    subst hc; subst hb; refine ⟨b, c, cur, rfl, h2, h3, by omega, h5, h6, ?_⟩
    have : (cur.toList.take ((n + 1) * z)).take (n * z) = xs := by rw [h7, ← hx]; simp
    rw [List.take_take] at this
    rwa [Nat.min_eq_left (Nat.mul_le_mul_right _ (by omega))] at this
theorem top_facts {w : World} {base b n c : Nat} {xs : List Value} {v x y z : Value} (h : w.ownsRow base 203 4 (.slice (some ⟨b, 0, none⟩) (n + 1) c) (n + 1) (xs ++ [v, x, y, z])) (hx : xs.length = n * 4) :
    w.cell? ⟨b, n * 4, none⟩ = some v ∧ w.cell? ⟨b, n * 4 + 1, none⟩ = some x ∧ w.cell? ⟨b, n * 4 + 2, none⟩ = some y ∧ w.cell? ⟨b, n * 4 + 3, none⟩ = some z :=
  ⟨(h.cellAt _ (by omega)).trans (by rw [List.getElem?_append_right (by omega), hx, Nat.sub_self]; rfl), (h.cellAt _ (by omega)).trans (by rw [List.getElem?_append_right (by omega), hx, show n * 4 + 1 - n * 4 = 1 by omega]; rfl),
    (h.cellAt _ (by omega)).trans (by rw [List.getElem?_append_right (by omega), hx, show n * 4 + 2 - n * 4 = 2 by omega]; rfl), (h.cellAt _ (by omega)).trans (by rw [List.getElem?_append_right (by omega), hx, show n * 4 + 3 - n * 4 = 3 by omega]; rfl)⟩
theorem own_apart {w : World} {base base' n n' e e' z z' : Nat} {v v' : Value} {xs xs' : List Value} (h : w.ownsRow base e z v n xs) (h' : w.ownsRow base' e' z' v' n' xs') (he : e ≠ e') : ∀ b, v.ownBlock = some b → some b ≠ v'.ownBlock := by
  intro b hb hb'
  rcases h.2 with ⟨rfl, _⟩ | ⟨g, cap, cur, rfl, _, hk, _⟩
  · simp [Value.ownBlock] at hb
  rcases h'.2 with ⟨rfl, _⟩ | ⟨g', cap', cur', rfl, _, hk', _⟩
  · simp [Value.ownBlock] at hb'
  obtain rfl : g = b := by simpa [Value.ownBlock] using hb
  obtain rfl : g = g' := by simpa [Value.ownBlock] using hb'
  rw [hk] at hk'
  injection hk' with h1
  injection h1 with _ h2 _
  exact he h2
theorem term_at (w : World) (x y z : Value) : ∀ j u, ([x, y, z] : List Value)[j]? = some u → (w.drew.alloc (.cells #[x, y, z] 42)).cell? ((⟨w.heap.size, 0, none⟩ : Addr).add j) = some u := by
  intro j u hj; rw [add_plain]; refine (q4 (World.alloc_heap_new w.drew _) j).trans ?_
  match j, hj with
  | 0, hj => exact hj
  | 1, hj => exact hj
  | 2, hj => exact hj
theorem own_grown {w w' : World} {base n e z : Nat} {v : Value} {xs : List Value} {row : Option Nat} (h : w.ownsRow base e z v n xs) (hg : w.grownBy w' row) (hne : ∀ b, v.ownBlock = some b → some b ≠ row) : w'.ownsRow base e z v n xs := by
  obtain ⟨h1, h2⟩ := h; refine ⟨h1, ?_⟩
  rcases h2 with h2 | ⟨b, cap, cur, rfl, hbb, hh, r⟩
  · exact .inl h2
  · exact .inr ⟨b, cap, cur, rfl, hbb, (hg.block b (Array.getElem?_eq_some_iff.1 hh).1 (hne b rfl)).trans hh, r⟩
theorem end_fin {W w5 : World} {g base n bs cs b5 c5 na : Nat} {s : ByteArray} {at_ fault : Int} {va vl v6 : Value} {xs ys zs : List Value} (h6 : v6 = .bool true) (hp : Aside0 (Pz w5 g s at_ fault vl (.slice (some ⟨bs, 0, none⟩) (n + 1) cs))) (ho : Aside0 (w5.ownsRow base 42 3 (.slice (some ⟨b5, 0, none⟩) (na + 1) c5) (na + 1) xs))
    (hk : Aside0 (w5.ownsRow base 203 4 (.slice (some ⟨bs, 0, none⟩) (n + 1) cs) (n + 1) (ys ++ zs))) (hy : Aside0 (ys.length = n * 4))
    (hf : Aside0 (Fr W w5 (fun i => i = g ∨ some i = va.ownBlock))) (hn : Aside0 (some b5 = va.ownBlock ∨ W.heap.size ≤ b5)) (hgb : g ≠ b5) (hgs : g ≠ bs) :
    Ending.returned v6 = .returned (.bool true) ∧ ∃ vl', Pz ((w5.setCell ⟨g, 3, none⟩ (.slice (some ⟨b5, 0, none⟩) (na + 1) c5)).setCell ⟨g, 4, none⟩ (.slice (some ⟨bs, 0, none⟩) n cs)) g s at_ fault vl' (.slice (some ⟨bs, 0, none⟩) n cs) ∧
      ((w5.setCell ⟨g, 3, none⟩ (.slice (some ⟨b5, 0, none⟩) (na + 1) c5)).setCell ⟨g, 4, none⟩ (.slice (some ⟨bs, 0, none⟩) n cs)).ownsRow base 203 4 (.slice (some ⟨bs, 0, none⟩) n cs) n ys ∧
      ((w5.setCell ⟨g, 3, none⟩ (.slice (some ⟨b5, 0, none⟩) (na + 1) c5)).setCell ⟨g, 4, none⟩ (.slice (some ⟨bs, 0, none⟩) n cs)).ownsRow base 42 3 vl' (na + 1) xs ∧ (∀ b, vl'.ownBlock = some b → va.ownBlock = some b ∨ W.heap.size ≤ b) ∧
      Fr W ((w5.setCell ⟨g, 3, none⟩ (.slice (some ⟨b5, 0, none⟩) (na + 1) c5)).setCell ⟨g, 4, none⟩ (.slice (some ⟨bs, 0, none⟩) n cs)) (fun i => i = g ∨ some i = va.ownBlock) := by
  have hgo : some g ≠ (Value.slice (some ⟨b5, 0, none⟩) (na + 1) c5).ownBlock := by simp [Value.ownBlock]; exact hgb
  have hgk : some g ≠ (Value.slice (some ⟨bs, 0, none⟩) n cs).ownBlock := by simp [Value.ownBlock]; exact hgs
  refine ⟨by rw [h6], _, (hp.out.setList _).setStack _, own_farG (own_farG (own_drop hk.out hy.out) g 3 _ hgk) g 4 _ hgk, own_farG (own_farG ho.out g 3 _ hgo) g 4 _ hgo, new_own hn.out, ?_⟩; exact fr_step (T := fun i => i = g ∨ some i = va.ownBlock) (fr_step (T := fun i => i = g ∨ some i = va.ownBlock) hf.out (.inl (.inl rfl)) (grown_set _ g 3 _) (fun i e => e)) (.inl (.inl rfl)) (grown_set _ g 4 _) (fun i e => e)
set_option maxRecDepth 100000 in
set_option maxHeartbeats 4000000 in
theorem end1.calls (g base : Nat) (s : ByteArray) (at_ fault : Int) (av : Option Addr) (nv cv : Nat) (bs cs n : Nat) (ys : List Value) (va : Value) (na : Nat) (xsa : List Value) (k : Int) (tx : ByteArray) (A : Option Addr) (m c : Nat) (W : World)
    (h : Pz W g s at_ fault (.slice av nv cv) (.slice (some ⟨bs, 0, none⟩) (n + 1) cs)) (ho : W.ownsRow base 203 4 (.slice (some ⟨bs, 0, none⟩) (n + 1) cs) (n + 1) (ys ++ [va, .int .i64 k, .string tx, .slice A m c])) (hys : ys.length = n * 4)
    (ha : W.ownsRow base 42 3 va na xsa) (hb : base ≤ g) (hn8 : n ≤ 1099511627776) (hna : na ≤ 1099511627776) (hat : 0 ≤ at_ ∧ at_ ≤ 1099511627776) :
    Calls Try.prog 164 #[.pointer (some ⟨g, 0, none⟩), .int .i64 k] W fun e W' => e = .returned (.bool true) ∧ ∃ vl', Pz W' g s (at_ + 1) fault vl' (.slice (some ⟨bs, 0, none⟩) n cs) ∧ W'.ownsRow base 203 4 (.slice (some ⟨bs, 0, none⟩) n cs) n ys ∧
      W'.ownsRow base 42 3 vl' (na + 1) (xsa ++ [.int .i64 k, .string tx, .slice av nv cv]) ∧ (∀ b, vl'.ownBlock = some b → va.ownBlock = some b ∨ W.heap.size ≤ b) ∧ Fr W W' (fun i => i = g ∨ some i = va.ownBlock) := by
  obtain ⟨p0, p1, p2, p3, p4⟩ := h.cells; have pf1 := h.fz 1; obtain ⟨t0, t1, t2, t3⟩ := top_facts ho hys
  obtain ⟨aa, ca, hva⟩ : ∃ aa ca, va = .slice aa na ca := by
    rcases ha.2 with ⟨hv, h0⟩ | ⟨b, cap, cur, hv, _⟩
    · exact ⟨none, 0, by rw [hv, h0]⟩
    · exact ⟨_, _, hv⟩
  subst hva; have HP := Aside0.mk h; have HO := Aside0.mk ho; have HA := Aside0.mk ha; have hgl : g < W.heap.size := (Array.getElem?_eq_some_iff.1 h).1; have hbl : bs < W.heap.size := (ho.lt bs rfl).2
  have hgb : g ≠ bs := fun e => own_neG ho (by decide) h (by rw [e]; rfl)
  have hw1 : IntKind.i64.wrap (((n + 1 : Nat) : Int) - 1) = (n : Int) := by rw [i64_w]; rw [wrap64_id (by omega) (by omega)]; omega
  have hw2 : IntKind.i64.wrap ((n : Int) + 1 - 1) = (n : Int) := by rw [i64_w]; rw [wrap64_id (by omega) (by omega)]; omega
  have hw3 : IntKind.i64.wrap (n : Int) = (n : Int) := by rw [i64_w]; rw [wrap64_id (by omega) (by omega)]
  have hw4 : IntKind.i64.wrap (at_ + 1) = at_ + 1 := by rw [i64_w]; rw [wrap64_id (by omega) (by omega)]
  have hnn : (n : Int) < (n : Int) + 1 := by omega
  have hnn0 : (0 : Int) ≤ (n : Int) := Int.natCast_nonneg _; have e0 : decide ((n : Int) < 0) = false := decide_eq_false (by omega); have HNA := Aside0.mk hna; have HYS := Aside0.mk hys; clear h ho ha hn8 hna hat hys
  go_enter Try.func164, Try.ntmps164
  go_wp2_with fail
  have hp6 : Pz (W.setCell ⟨g, 1, none⟩ (.int .i64 (at_ + 1))) g s (at_ + 1) fault (.slice av nv cv) (.slice (some ⟨bs, 0, none⟩) (n + 1) cs) := HP.out.setAt _; have hg6 := grown_set W g 1 (.int .i64 (at_ + 1)); have hga : some g ≠ (Value.slice aa na ca).ownBlock := own_neG HA.out (by decide) HP.out; have ho6 := own_farG HO.out g 1 (.int .i64 (at_ + 1)) (own_neG HO.out (by decide) HP.out); have ha6 := own_farG HA.out g 1 (.int .i64 (at_ + 1)) hga
  have hs6 : (W.setCell ⟨g, 1, none⟩ (.int .i64 (at_ + 1))).heap.size = W.heap.size := by simp [World.setCell]
  obtain ⟨W5, hW5⟩ : ∃ W5, W.setCell ⟨g, 1, none⟩ (.int .i64 (at_ + 1)) = W5 := ⟨_, rfl⟩; rw [hW5] at hp6 hg6 ho6 ha6 hs6 ⊢; have hn6 := World.alloc_heap_new W5 (.cells #[.slice aa na ca, .int .i64 k, .string tx, .slice av nv cv] 203); have hb6 : Below W5.heap.size W5 (W5.alloc (.cells #[.slice aa na ca, .int .i64 k, .string tx, .slice av nv cv] 203)) := (Below.refl _ _).alloc (Nat.le_refl _) _; obtain ⟨W6, hW6⟩ : ∃ W6, W5.alloc (.cells #[.slice aa na ca, .int .i64 k, .string tx, .slice av nv cv] 203) = W6 := ⟨_, rfl⟩; rw [hW6] at hn6 hb6 ⊢; rw [hs6] at hn6; have hF6 : Fr W W6 (fun i => i = g ∨ some i = (Value.slice aa na ca).ownBlock) := (Fr.of_grown hg6 (fun i e => by cases e; exact .inl rfl)).trans (Fr.mk hb6.os hb6.tape hb6.output hb6.size (fun i hi _ => hb6.block i hi)); have HP6 : Aside0 (Pz W6 g s (at_ + 1) fault (.slice av nv cv) (.slice (some ⟨bs, 0, none⟩) (n + 1) cs)) := ⟨(hb6.block g (Array.getElem?_eq_some_iff.1 hp6).1).trans hp6⟩; have HO6 := Aside0.mk (own_below4 ho6 hb6); have HA6 := Aside0.mk (own_below4 ha6 hb6); have HF6 := Aside0.mk hF6; have y0 : W6.cell? ⟨W.heap.size, 0, none⟩ = some (.slice aa na ca) := (q4 hn6 0).trans rfl; have y1 : W6.cell? ⟨W.heap.size, 1, none⟩ = some (.int .i64 k) := (q4 hn6 1).trans rfl; have y2 : W6.cell? ⟨W.heap.size, 2, none⟩ = some (.string tx) := (q4 hn6 2).trans rfl; have y3 : W6.cell? ⟨W.heap.size, 3, none⟩ = some (.slice av nv cv) := (q4 hn6 3).trans rfl; have z4 := HP6.out.cells.2.2.2.2; have zf3 := HP6.out.fz 3; have zf4 := HP6.out.fz 4; have hgl6 : g < W6.heap.size := (Array.getElem?_eq_some_iff.1 HP6.out).1; have hwl6 : W.heap.size < W6.heap.size := (Array.getElem?_eq_some_iff.1 hn6).1; have hbs6 : base ≤ W6.heap.size := Nat.le_trans hb (Nat.le_of_lt hgl6); obtain ⟨i0, hi, hz0, hz1, hz2⟩ := info_parts info_term
  have hcs : n ≤ cs := by
    rcases HO.out.2 with ⟨h1, _⟩ | ⟨_, cap, _, h1, _, _, h4, _⟩
    · simp at h1
    · have : cs = cap := by injection h1
      omega
  have hcsi : (n : Int) ≤ (cs : Int) := by omega
  clear hp6 hg6 ho6 ha6 hs6 hW5 hn6 hb6 hW6 hF6 p0 p1 p2 p3 p4 t0 t1 t2 t3 pf1 hw1 hw2 hw4 e0
  go_region_law ((refine step_append_own2 _ rfl _ _ 22 rfl base 42 i0 (.agg #[.int .i64 0, .string ⟨#[]⟩, .slice none 0 0]) 3 48 Try.underlying22 hi hz0 hz1 hz2 rfl (by decide) _ _ _ rfl (HA6.out.drew.alloc _) ⟨W6.heap.size, 0, none⟩ 1 1 [.int .i64 k, .string tx, .slice av nv cv] rfl rfl (term_at W6 _ _ _) (by simp [Value.oneCell']) (by have := HNA.out; simp only [maxLen]; omega) (by have := HNA.out; omega) (by simp; omega) ?_; intro v5 w5 hown5 hgrow5 hnew5; have HF5 := Aside0.mk (show Fr W w5 (fun i => i = g ∨ some i = (Value.slice aa na ca).ownBlock) from (HF6.out.trans (Fr.of_grown (row := none) (grown_da W6 (.cells #[.int .i64 k, .string tx, .slice av nv cv] 42)) (fun i e => nomatch e))).trans (Fr.of_grown hgrow5 (fun i e => .inr e.symm))); obtain ⟨b5, c5, hv5⟩ : ∃ b5 c5, v5 = .slice (some ⟨b5, 0, none⟩) (na + 1) c5 := (by rcases hown5.2 with ⟨_, h0⟩ | ⟨b, cap, cur, hv, _⟩; (· omega); (· exact ⟨_, _, hv⟩)); subst hv5; have HP5 : Pz w5 g s (at_ + 1) fault (.slice av nv cv) (.slice (some ⟨bs, 0, none⟩) (n + 1) cs) := Pz.grown (Pz.grown (show Pz W6.drew g s (at_ + 1) fault (.slice av nv cv) (.slice (some ⟨bs, 0, none⟩) (n + 1) cs) from HP6.out) (World.grownBy_alloc W6.drew (.cells #[.int .i64 k, .string tx, .slice av nv cv] 42) none) (by simp)) hgrow5 (own_neG HA6.out (by decide) HP6.out); have hb5g : b5 ≠ g := (fun e => own_neG hown5 (by decide) HP5 (by rw [e]; rfl)); have p54 := HP5.cells.2.2.2.2; have p53 := HP5.cells.2.2.2.1; have pf53 := HP5.fz 3; have pf54 := HP5.fz 4; have HO5 := Aside0.mk hown5; have HSK5 : Aside0 (w5.ownsRow base 203 4 (.slice (some ⟨bs, 0, none⟩) (n + 1) cs) (n + 1) (ys ++ [.slice aa na ca, .int .i64 k, .string tx, .slice A m c])) := ⟨own_grown (own_grown (show W6.drew.ownsRow base 203 4 (.slice (some ⟨bs, 0, none⟩) (n + 1) cs) (n + 1) (ys ++ [.slice aa na ca, .int .i64 k, .string tx, .slice A m c]) from HO6.out) (World.grownBy_alloc W6.drew (.cells #[.int .i64 k, .string tx, .slice av nv cv] 42) none) (by simp)) hgrow5 (own_apart HO6.out HA6.out (by decide))⟩; have HP5' := Aside0.mk HP5; have hgl5 : g < w5.heap.size := (Array.getElem?_eq_some_iff.1 HP5).1; have hgb5 : g ≠ b5 := hb5g.symm; have HNEW5 : Aside0 (some b5 = (Value.slice aa na ca).ownBlock ∨ W.heap.size ≤ b5) := ⟨(hnew5 b5 rfl).imp Eq.symm (fun h => Nat.le_trans HF6.out.size (Nat.le_trans (by simp) h))⟩; clear hown5 hgrow5 hnew5 HP5))
  all_goals
    clear p53 p54 pf53 pf54 z4 zf3 zf4
    go_wp2
    go_ret
    (with_reducible refine end_fin ?_ HP5' HO5 HSK5 HYS HF5 HNEW5 hgb5 hgb)
    rfl
end Go.Proofs.Ytjhjhhibbmligaa.TE
end
section
namespace Go.Proofs.Ytjhjhhibbmligaa.TE
open Go.RowKit Go.Shelf Go.Proofs.YtjhjhhibbmligaaW.PrintWords Go.Proofs.YtjhjhhibbmligaaW.PrintLast Go.Proofs.YtjhjhhibbmligaaW.PrintMore Go.Proofs.Ytjhjhhibbmligaa.Evs
set_option linter.unusedVariables false
set_option linter.unusedSimpArgs false
theorem own_fr {w w' : World} {base n e z : Nat} {v : Value} {xs : List Value} {S : Nat → Prop} (h : w.ownsRow base e z v n xs) (hg : Fr w w' S) (hne : ∀ b, v.ownBlock = some b → ¬ S b) : w'.ownsRow base e z v n xs := by
  obtain ⟨h1, h2⟩ := h; refine ⟨h1, ?_⟩
  rcases h2 with h2 | ⟨b, cap, cur, rfl, hbb, hh, r⟩
  · exact .inl h2
  · exact .inr ⟨b, cap, cur, rfl, hbb, (hg.block b (Array.getElem?_eq_some_iff.1 hh).1 (hne b rfl)).trans hh, r⟩
theorem fr_grown {A B C : World} {g : Nat} (h : Fr A B (fun i => i = g)) (k : B.grownBy C (some g)) : Fr A C (fun i => i = g) := h.trans (Fr.of_grown k (fun i e => by cases e; rfl))
theorem fr_drewN {A B : World} {S : Nat → Prop} {n : Nat} (h : Fr A B S) : Fr A (B.drewN n) S := ⟨h.os, h.tape, h.output, h.size, h.block⟩
theorem fr_drew {A B : World} {S : Nat → Prop} (h : Fr A B S) : Fr A B.drew S := ⟨h.os, h.tape, h.output, h.size, h.block⟩
theorem fr_below {A B C : World} {S : Nat → Prop} (h : Fr A B S) (k : Below B.heap.size B C) : Fr A C S := h.trans (Fr.mk k.os k.tape k.output k.size (fun i hi _ => k.block i hi))
theorem fr_new {A B : World} {S : Nat → Prop} (h : Fr A B S) (o : Obj) : Fr A (B.alloc o) S := fr_below h ((Below.refl _ _).alloc (Nat.le_refl _) _)
theorem Pz.newer {W W' : World} {g : Nat} {s : ByteArray} {at_ fault : Int} {vl vs : Value} (h : Pz W g s at_ fault vl vs) (hb : Below W.heap.size W W') : Pz W' g s at_ fault vl vs := (hb.block g (Array.getElem?_eq_some_iff.1 h).1).trans h
set_option maxRecDepth 100000 in
set_option maxHeartbeats 4000000 in
theorem call1.calls (g base : Nat) (s : ByteArray) (a a1 a2 : Nat) (fault : Int) (av : Option Addr) (nv cv : Nat) (vs : Value) (n : Nat) (ys : List Value) (kk : Nat) (tx : ByteArray) (W : World) (h : Pz W g s a fault (.slice av nv cv) vs) (ho : W.ownsRow base 203 4 vs n ys) (hb : base ≤ g) (hn8 : n ≤ 1099511627776)
    (hs : s.size ≤ 1099511627776) (ha : a < s.size) (h1 : a1 = endF 8 s (a + 1)) (hl : a1 < s.size) (hcl : clsB 1 (s[a1]'hl) = true) (h2 : a2 = endF 4 s a1) (htx : tx = s.extract a1 a2) (hr : term_right.f kk 8 tx [] = some true) (hon : onB s a2 = false) :
    Calls Try.prog 163 #[.pointer (some ⟨g, 0, none⟩)] W fun e W' => e = .returned (.bool true) ∧ ∃ vs', Pz W' g s a2 fault (.slice none 0 0) vs' ∧ W'.ownsRow base 203 4 vs' (n + 1) (ys ++ [.slice av nv cv, .int .i64 8, .string tx, .slice none 0 0]) ∧ (∀ b, vs'.ownBlock = some b → vs.ownBlock = some b ∨ W.heap.size ≤ b) ∧ Fr W W' (fun i => i = g ∨ some i = vs.ownBlock) := by
  have hga : some g ≠ vs.ownBlock := own_neG ho (by decide) h; obtain ⟨p0, p1, p2, p3, p4⟩ := h.cells; have pf1 := h.fz 1
  have hp1 : Pz (W.setCell ⟨g, 1, none⟩ (.int .i64 ((a : Int) + 1))) g s ((a + 1 : Nat) : Int) fault (.slice av nv cv) vs := by have := h.setAt ((a : Int) + 1); simpa using this
  have hf1 : Fr W (W.setCell ⟨g, 1, none⟩ (.int .i64 ((a : Int) + 1))) (fun i => i = g) := Fr.of_grown (grown_set W g 1 _) (fun i e => by cases e; rfl); obtain ⟨W1, hW1⟩ : ∃ W1, W.setCell ⟨g, 1, none⟩ (.int .i64 ((a : Int) + 1)) = W1 := ⟨_, rfl⟩; rw [hW1] at hp1 hf1; have HW1 := Aside0.mk hW1
  have hw4 : IntKind.i64.wrap ((a : Int) + 1) = (a : Int) + 1 := by rw [i64_w]; rw [wrap64_id (by omega) (by omega)]
  have ha2 : a2 ≤ s.size := by rw [h2]; exact endF_le 4 s a1 (by omega)
  have HP1 := Aside0.mk hp1; have HF1 := Aside0.mk hf1; have HO := Aside0.mk ho; have HA := Aside0.mk ha; have H1 := Aside0.mk h1; have HS := Aside0.mk hs; have H2 := Aside0.mk h2; have HTX := Aside0.mk htx; have HR := Aside0.mk hr; have HON := Aside0.mk hon; have HN8 := Aside0.mk hn8; have ha0 : (0 : Int) ≤ (a1 : Int) := Int.natCast_nonneg _
  have ha1 : (a1 : Int) < (s.size : Int) := by omega
  have hne : ((a1 : Int) == (s.size : Int)) = false := by simp; omega
  obtain ⟨b, hb1⟩ : ∃ b, b = s[a1]'hl := ⟨_, rfl⟩
  have hbt : ((s[a1]'hl).toNat : Int) = (b.toNat : Int) := by rw [hb1]
  have hcall := fun w => is_calls b 1 w
  rw [show clsB 1 b = true by rw [hb1]; exact hcl] at hcall; have HCALL := Aside0.mk hcall; clear h ho hn8 hW1 hp1 hf1 ha hs h1 h2 htx hr hon hcall hcl p0 p2 p3 p4
  go_enter Try.func163, Try.ntmps163
  go_wp2_with fail
  rw [HW1.out]; clear p1 pf1 hw4; refine (longest.calls g s (a + 1) 8 fault (.slice av nv cv) vs W1 HP1.out HS.out HA.out).mono ?_; rintro e w1 ⟨rfl, hp, hg⟩; rw [← H1.out] at hp; obtain ⟨p0, p1, p2, p3, p4⟩ := hp.cells; have HP2 := Aside0.mk hp; have HF2 := Aside0.mk (fr_grown HF1.out hg); clear hp hg p2 p3 p4
  go_wp2_with fail
  go_quiet (first | (go_at_call 156; exact Calls.quiet_of (HCALL.out _)))
  clear p0 p1
  go_wp2_with fail
  refine (longest.calls g s a1 4 fault (.slice av nv cv) vs _ HP2.out.drewN HS.out (Nat.le_of_lt (by assumption))).mono ?_; rintro e w2 ⟨rfl, hp, hg⟩; rw [← H2.out, ← HTX.out]; rw [← H2.out] at hp; have HP3 := Aside0.mk hp; have HF3 := Aside0.mk (fr_grown (fr_drewN HF2.out) hg); clear hp hg
  go_wp2_with fail
  have hn3 := World.alloc_heap_new w2 (.cells #[.int .i64 8, .string tx, .slice none 0 0] 42); have hb3 : Below w2.heap.size w2 (w2.alloc (.cells #[.int .i64 8, .string tx, .slice none 0 0] 42)) := (Below.refl _ _).alloc (Nat.le_refl _) _; obtain ⟨W3, hW3⟩ : ∃ W3, w2.alloc (.cells #[.int .i64 8, .string tx, .slice none 0 0] 42) = W3 := ⟨_, rfl⟩; rw [hW3] at hn3 hb3 ⊢; clear hW3; refine (term_right.calls kk 8 tx none 0 [] true W3 (Kd.C_nil k42 W3) (Nat.le_refl _) HR.out).mono ?_; rintro e w3 ⟨rfl, hb4⟩; have hx3 := (hb4.block _ (Array.getElem?_eq_some_iff.1 hn3).1).trans hn3; have x0 : w3.cell? ⟨w2.heap.size, 0, none⟩ = some (.int .i64 8) := (q4 hx3 0).trans rfl; have x1 : w3.cell? ⟨w2.heap.size, 1, none⟩ = some (.string tx) := (q4 hx3 1).trans rfl; have x2 : w3.cell? ⟨w2.heap.size, 2, none⟩ = some (.slice none 0 0) := (q4 hx3 2).trans rfl; have HP4 := Aside0.mk ((HP3.out.newer hb3).newer hb4); have HF4 := Aside0.mk (fr_below (fr_below HF3.out hb3) hb4); have HX3 := Aside0.mk hx3; clear hn3 hb3 hb4 hx3
  go_wp2_with fail
  clear x0 x1 x2; have hap := apart.calls g s a2 fault (.slice av nv cv) vs w3 HP4.out HS.out; rw [HON.out] at hap; refine hap.mono ?_; clear hap; rintro e w4 ⟨rfl, hp, hg⟩; have hp : Pz w4 g s a2 fault (.slice av nv cv) vs := hp
  have hx4 := grown_blk hg HX3.out (fun e => by
    have h1 := (Array.getElem?_eq_some_iff.1 HP3.out).1
    omega)
  have x0 : w4.cell? ⟨w2.heap.size, 0, none⟩ = some (.int .i64 8) := (q4 hx4 0).trans rfl; have x1 : w4.cell? ⟨w2.heap.size, 1, none⟩ = some (.string tx) := (q4 hx4 1).trans rfl; have x2 : w4.cell? ⟨w2.heap.size, 2, none⟩ = some (.slice none 0 0) := (q4 hx4 2).trans rfl; have HP5 := Aside0.mk hp; have HF5 := Aside0.mk (fr_grown HF4.out hg); clear hp hg hx4
  go_wp2_with fail
  refine (begin.calls g base s a2 fault av nv cv vs n ys 8 tx none 0 0 w4 HP5.out (own_fr HO.out HF5.out (fun b hb e => hga (by rw [hb, e]))) hb HN8.out).mono ?_; rintro e w5 ⟨rfl, vs', hp, ho, hn, hf⟩; have HP6 := Aside0.mk hp; have HO6 := Aside0.mk ho; have HN6 := Aside0.mk hn; have HF6 := Aside0.mk hf; clear hp ho hn hf
  go_wp2_with fail
  go_ret; exact ⟨rfl, vs', HP6.out, HO6.out, fun b hb => (HN6.out b hb).imp id (Nat.le_trans HF5.out.size), (HF5.out.mono (fun i _ e => .inl e)).trans HF6.out⟩
end Go.Proofs.Ytjhjhhibbmligaa.TE
namespace Go.Proofs.Ytjhjhhibbmligaa.TE
open Go.RowKit Go.Shelf Go.Proofs.YtjhjhhibbmligaaW.PrintWords Go.Proofs.YtjhjhhibbmligaaW.PrintLast Go.Proofs.YtjhjhhibbmligaaW.PrintMore Go.Proofs.Ytjhjhhibbmligaa.Evs
set_option linter.unusedVariables false
set_option linter.unusedSimpArgs false
theorem info_byte : (Try.prog.info? 5).map (fun i => (i.zero, i.size, i.bytes)) = some (some (.int .u8 0), 1, 1) := by kernel_rfl
def between (s : ByteArray) (a n : Nat) : List UInt8 := (s.data.toList.drop a).take n
theorem between_len (s : ByteArray) (a n : Nat) (h : a + n ≤ s.size) : (between s a n).length = n := by
  unfold between; rw [List.length_take, List.length_drop, ← size_len]; omega
theorem between_step (s : ByteArray) (a n : Nat) (h : a + n < s.size) : between s a (n + 1) = between s a n ++ [s[a + n]'h] := by
  unfold between
  have hl : a + n < s.data.toList.length := by rw [← size_len]; exact h
  have he : s.data.toList[a + n]'hl = s[a + n]'h := by simp; rfl
  rw [List.take_succ_eq_append_getElem (by rw [List.length_drop]; omega)]; rw [List.getElem_drop, he]
structure Plainly (s : ByteArray) (a e : Nat) : Prop where
  lt : a < e
  le : e < s.size
  shut : ∀ h h', s[e]'h = s[a]'h'
  between : ∀ j h h', a < j → j < e → 32 ≤ (s[j]'h).toNat ∧ (s[j]'h).toNat ≤ 126 ∧ (s[j]'h).toNat ≠ 92 ∧ s[j]'h ≠ s[a]'h'
theorem cell_new1 (w : World) (v : Value) (t : TypeId) : ∀ j u, ([v] : List Value)[j]? = some u → (w.alloc (.cells #[v] t)).cell? ((⟨w.heap.size, 0, none⟩ : Addr).add j) = some u := by
  intro j u hj; rw [add_plain]; refine (q4 (World.alloc_heap_new w _) j).trans ?_
  match j, hj with
  | 0, hj => exact hj
theorem fr_row {A B C : World} {S : Nat → Prop} {row : Option Nat} (h : Fr A B S) (k : B.grownBy C row) (hr : ∀ b, row = some b → A.heap.size ≤ b) : Fr A C S :=
  ⟨k.os.trans h.os, k.tape.trans h.tape, k.output.trans h.output, Nat.le_trans h.size k.size, fun i hi hn => (k.block i (Nat.lt_of_lt_of_le hi h.size) (fun e => by have := hr i e.symm; omega)).trans (h.block i hi hn)⟩
theorem own_drewN {w : World} {base n e z k : Nat} {v : Value} {xs : List Value} (h : w.ownsRow base e z v n xs) : (w.drewN k).ownsRow base e z v n xs := h
theorem byteCells_snoc1 (l : List UInt8) (b : UInt8) : Lib.byteCells (l ++ [b]) = Lib.byteCells l ++ [.int .u8 (b.toNat : Int)] := by simp [Lib.byteCells]
set_option maxRecDepth 100000 in
set_option maxHeartbeats 4000000 in
theorem quotation1.calls (g : Nat) (s : ByteArray) (a e : Nat) (fault : Int) (vl vs : Value) (W : World) (h : Pz W g s a fault vl vs) (hs : s.size ≤ 1099511627776) (hq : Plainly s a e) :
    Calls Try.prog 158 #[.pointer (some ⟨g, 0, none⟩)] W fun x W' => ∃ vo, x = .returned (.tuple #[vo, .bool true]) ∧ Pz W' g s ((e + 1 : Nat) : Int) fault vl vs ∧ W'.ownsRow W.heap.size 5 1 vo (e - (a + 1)) (Lib.byteCells (between s (a + 1) (e - (a + 1)))) ∧ Fr W W' (fun i => i = g) := by
  obtain ⟨p0, p1, p2, p3, p4⟩ := h.cells; have pf1 := h.fz 1; have hae := hq.lt; have hes := hq.le
  have has : a < s.size := by omega
  obtain ⟨q0, hq0⟩ : ∃ q0, q0 = s[a]'has := ⟨_, rfl⟩
  have hqt : ((s[a]'has).toNat : Int) = (q0.toNat : Int) := by rw [hq0]
  have hw4 : IntKind.i64.wrap ((a : Int) + 1) = (a : Int) + 1 := by rw [i64_w]; rw [wrap64_id (by omega) (by omega)]
  have ha0 : (0 : Int) ≤ (a : Int) := Int.natCast_nonneg _
  have ha1 : (a : Int) < (s.size : Int) := by omega
  have H := Aside0.mk h; have HQ := Aside0.mk hq; have HQ0 := Aside0.mk hq0; have HS := Aside0.mk hs; have HL := Aside0.mk hae; have HE := Aside0.mk hes; clear h hq hq0 hs hae hes p2 p3 p4; obtain ⟨i0, hi, hz0, hz1, hz2⟩ := info_parts info_byte
  go_enter Try.func158, Try.ntmps158
  go_wp2_with fail
  go_quiet (fail)
  go_wp2_with fail
  clear p0 p1 pf1 hw4
  go_loopg [5] (s.size + 1) (fun gk v5 wr_ => ∃ n : Nat, a + 1 + n ≤ e ∧ s.size - (a + 1 + n) < gk ∧ Aside0 (Pz wr_ g s ((a + 1 + n : Nat) : Int) fault vl vs) ∧ Aside0 (wr_.ownsRow W.heap.size 5 1 v5 n (Lib.byteCells (between s (a + 1) n))) ∧ Aside0 (Fr W wr_ (fun i => i = g)))
  case atStart => exact ⟨0, by have := HL.out; omega, by omega, ⟨by have := H.out.drewN (n := nq) |>.setAt ((a : Int) + 1); simpa using this⟩, ⟨by simpa [between, Lib.byteCells] using World.ownsRow_nil _ _ _ _⟩, ⟨fr_grown (fr_drewN (Fr.refl W _)) (grown_set _ g 1 _)⟩⟩
  case round =>
    obtain ⟨n, hne, hgk, HP, HO, HF⟩ := hrel; obtain ⟨g', rfl⟩ : ∃ g', gk = g' + 1 := ⟨gk - 1, by omega⟩; obtain ⟨q, hqd⟩ : ∃ q, q = a + 1 + n := ⟨_, rfl⟩; rw [← hqd] at HP hne hgk; have HQD := Aside0.mk hqd; obtain ⟨c0, c1, c2, c3, c4⟩ := HP.out.cells; have f1 := HP.out.fz 1; have hgl : g < wr.heap.size := (Array.getElem?_eq_some_iff.1 HP.out).1; have hq0 : (0 : Int) ≤ (q : Int) := Int.natCast_nonneg _; have hlt : q < s.size := Nat.lt_of_le_of_lt hne HE.out; have e1 : decide ((q : Int) < (s.size : Int)) = true := decide_eq_true (by omega)
    have hq1 : (q : Int) < (s.size : Int) := by omega
    have hw5 : IntKind.i64.wrap ((q : Int) + 1) = (q : Int) + 1 := by have := HS.out; rw [i64_w]; rw [wrap64_id (by omega) (by omega)]
    obtain ⟨b, hb⟩ : ∃ b, b = s[q]'hlt := ⟨_, rfl⟩
    have hbt : ((s[q]'hlt).toNat : Int) = (b.toNat : Int) := by rw [hb]
    have HB := Aside0.mk hb
    by_cases hend : q = e
    · have hbq : ((b.toNat : Int) == (q0.toNat : Int)) = true := by
        have : b = q0 := by rw [hb, HQ0.out]; subst hend; exact HQ.out.shut _ _
        rw [this]; simp
      have HEND := Aside0.mk hend; clear hb hend hqd
      go_wp2_with fail
      go_quiet (fail)
      go_wp2_with fail
      go_quiet (fail)
      go_wp2_with fail
      go_ret2
      have hq' := HQD.out; have he' := HEND.out
      obtain rfl : n = e - (a + 1) := by omega
      refine ⟨_, rfl, ?_, own_farG (own_drewN HO.out) g 1 _ (own_neG HO.out (by decide) HP.out), fr_grown (fr_drewN HF.out) (grown_set _ g 1 _)⟩
      have e5 : ((e + 1 : Nat) : Int) = (q : Int) + 1 := by omega
      rw [e5]; exact HP.out.drewN.setAt _
    · have hfacts := HQ.out.between q hlt (by have := HL.out; have := HE.out; omega) (by omega) (by omega); rw [← hb, ← HQ0.out] at hfacts; obtain ⟨hb32, hb126, hb92, hbq0⟩ := hfacts
      have hbq : ((b.toNat : Int) == (q0.toNat : Int)) = false := by
        have : b.toNat ≠ q0.toNat := fun e => hbq0 (UInt8.toNat_inj.1 e)
        simp; omega
      have e32 : decide ((b.toNat : Int) < 32) = false := decide_eq_false (by omega); have e126 : decide ((126 : Int) < (b.toNat : Int)) = false := decide_eq_false (by omega)
      have e92 : ((b.toNat : Int) == 92) = false := by simp; omega
      have hnext : q + 1 ≤ e := by omega
      have HNE := Aside0.mk hnext; clear hb hend hqd hb32 hb126 hb92 hbq0 hnext
      go_wp2_with fail
      go_quiet (fail)
      go_wp2_with fail
      go_quiet (fail)
      have hsz : W.heap.size ≤ wr.heap.size := HF.out.size
      have hn8 : n ≤ 1099511627776 := by have := HS.out; have := HQD.out; omega
      have HN8 := Aside0.mk hn8; have HSZ := Aside0.mk hsz; clear hn8 hsz
      go_wp2_with (at_builtin; refine wpList_append_own _ rfl _ _ 132 rfl W.heap.size 5 i0 (.int .u8 0) 1 1 Try.underlying132 hi hz0 hz1 hz2 rfl (by decide) _ _ _ rfl ((own_drewN HO.out).alloc _) ⟨wr.heap.size, 0, none⟩ 1 1 [.int .u8 (b.toNat : Int)] rfl rfl (cell_new1 _ _ _) (by simp [Value.oneCell']) (by have := HN8.out; simp only [maxLen]; omega) (by have := HN8.out; omega) (by have := HSZ.out; simp; omega) ?_; intro v' w5 hown5 hgrow5 _; have HOW5 := Aside0.mk hown5; have HFR5 := Aside0.mk (fr_row (fr_new (fr_drewN HF.out) _) hgrow5 (fun k hk => (HO.out.lt k hk).1)); have HPZ5 := Aside0.mk (Pz.grown (Pz.newer (HP.out.drewN) ((Below.refl _ _).alloc (Nat.le_refl _) _)) hgrow5 (own_neG HO.out (by decide) HP.out)); have d1 := HPZ5.out.cells.2.1; have df1 := HPZ5.out.fz 1; clear hown5 hgrow5)
      go_roundg g'
      case measure => have := HQD.out; have := HE.out; have := HNE.out; omega
      case rel =>
        have hqd' := HQD.out; refine ⟨n + 1, by have := HNE.out; omega, by omega, ⟨?_⟩, ⟨?_⟩, ⟨fr_grown HFR5.out (grown_set _ g 1 _)⟩⟩
        · have h5 := HPZ5.out.setAt ((q : Int) + 1)
          have e5 : ((a + 1 + (n + 1) : Nat) : Int) = (q : Int) + 1 := by omega
          rw [e5]; exact h5
        · rw [between_step s (a + 1) n (by omega), byteCells_snoc1]
          have e6 : s[a + 1 + n]'(by omega) = b := by rw [HB.out]; congr 1; exact hqd'.symm
          rw [e6]; exact own_farG HOW5.out g 1 _ (own_neG HOW5.out (by decide) HPZ5.out)
end Go.Proofs.Ytjhjhhibbmligaa.TE
end
section
namespace Go.Proofs.Ytjhjhhibbmligaa.TE
open Go.RowKit Go.Shelf Go.Proofs.YtjhjhhibbmligaaW.PrintWords Go.Proofs.YtjhjhhibbmligaaW.PrintLast Go.Proofs.YtjhjhhibbmligaaW.PrintMore Go.Proofs.Ytjhjhhibbmligaa.Evs
set_option linter.unusedVariables false
set_option linter.unusedSimpArgs false
def TR (W : World) (base : Nat) (ok : Nat → Prop) (v : Value) (l : List Tm) : Prop :=
  (∀ k, v.ownBlock = some k → ok k) ∧ OwnRow (fun x c => Kd.FK k42 W (fun k => ok k ∧ some k ≠ v.ownBlock) x c) 42 3 W base v l
theorem TR.own {W : World} {base : Nat} {ok : Nat → Prop} {v : Value} {l : List Tm} (h : TR W base ok v l) : ∃ xs, W.ownsRow base 42 3 v l.length xs ∧ Reps (fun x c => Kd.FK k42 W (fun k => ok k ∧ some k ≠ v.ownBlock) x c) 3 l xs := h.2
theorem TR.nil (W : World) (base : Nat) (ok : Nat → Prop) : TR W base ok (.slice none 0 0) [] := ⟨fun k h => by simp [Value.ownBlock] at h, OwnRow.none_ _ _ _ _ _⟩
theorem own_ltA {W : World} {base n e z : Nat} {v : Value} {xs : List Value} (h : W.ownsRow base e z v n xs) : ∀ k, v.ownBlock = some k → k < W.heap.size ∧ base ≤ k := fun k hk => by
  rcases h.2 with ⟨rfl, _⟩ | ⟨b, cap, cur, rfl, hb, hh, _⟩
  · simp [Value.ownBlock] at hk
  · obtain rfl : b = k := by simpa [Value.ownBlock] using hk
    exact ⟨(Array.getElem?_eq_some_iff.1 hh).1, hb⟩
theorem TR.mono {W : World} {base : Nat} {ok ok' : Nat → Prop} {v : Value} {l : List Tm} (h : TR W base ok v l) (hk : ∀ k, ok k → ok' k) : TR W base ok' v l :=
  ⟨fun k e => hk k (h.1 k e), h.2.imp_ (fun _ _ hf => Kd.FK_mono hf (fun k e => ⟨hk k e.1, e.2⟩))⟩
theorem own_same {W W' : World} {base n e z : Nat} {v : Value} {xs : List Value} (h : W.ownsRow base e z v n xs) (hk : ∀ k, v.ownBlock = some k → W'.heap[k]? = W.heap[k]?) : W'.ownsRow base e z v n xs := by
  obtain ⟨h1, h2⟩ := h; refine ⟨h1, ?_⟩
  rcases h2 with h2 | ⟨b, cap, cur, rfl, hbb, hh, r⟩
  · exact .inl h2
  · exact .inr ⟨b, cap, cur, rfl, hbb, (hk b rfl).trans hh, r⟩
theorem TR.step {W W' : World} {base : Nat} {ok : Nat → Prop} {v : Value} {l : List Tm} (h : TR W base ok v l) (hm : ∀ k, ok k → k < W.heap.size → W'.heap[k]? = W.heap[k]?) : TR W' base ok v l := by
  obtain ⟨xs, ho, hr⟩ := h.own; exact ⟨h.1, xs, own_same ho (fun k e => hm k (h.1 k e) (own_ltA ho k e).1), hr.imp_ (fun _ _ hf => Kd.FK_step hf (fun k e hl => hm k e.1 hl))⟩
theorem TR.slice {W : World} {base : Nat} {ok : Nat → Prop} {v : Value} {l : List Tm} (h : TR W base ok v l) : ∃ A c, v = .slice A l.length c ∧ l.length ≤ c := h.2.slice_
theorem TR.foot {W : World} {base : Nat} {ok : Nat → Prop} {A : Option Addr} {n c : Nat} {l : List Tm} (h : TR W base ok (.slice A n c) l) : n = l.length ∧ n ≤ c ∧ Kd.F k42 W ok A l.length l := by
  obtain ⟨A', c', e, hc⟩ := h.slice
  injection e with e1 e2 e3
  subst e1; subst e2; subst e3; refine ⟨rfl, hc, fun W' hW => ?_⟩; obtain ⟨A', c', e, _, hr⟩ := (h.step hW).2.reads
  injection e with e1 e2 e3
  subst e1; exact hr.imp_ (Below.refl _ _) (fun _ _ hp => Kd.FK_now hp)
theorem TR.snoc {W W' : World} {base g : Nat} {ok ok' : Nat → Prop} {v v' : Value} {l : List Tm} {xs c3 : List Value} {x : Tm} (h : TR W base ok v l) (hr : Reps (fun x c => Kd.FK k42 W (fun k => ok k ∧ some k ≠ v.ownBlock) x c) 3 l xs)
    (ho' : W'.ownsRow base 42 3 v' (l.length + 1) (xs ++ c3)) (hat : ∀ b, v'.ownBlock = some b → v.ownBlock = some b ∨ W.heap.size ≤ b) (hf : Fr W W' (fun i => i = g ∨ some i = v.ownBlock)) (hg : ¬ ok g)
    (hok : ∀ k, ok k → k < W.heap.size → ok' k) (hfresh : ∀ k, W.heap.size ≤ k → k < W'.heap.size → ok' k) (hx : Kd.FK k42 W' (fun k => ok' k ∧ some k ≠ v'.ownBlock) x c3) (hc : c3.length = 3) : TR W' base ok' v' (l ++ [x]) := by
  refine ⟨fun k e => ?_, xs ++ c3, by rw [List.length_append, List.length_singleton]; exact ho', Reps.snoc (hr.imp_ (fun y c hy => ?_)) hx hc⟩
  · rcases hat k e with e' | e'
    · exact hok k (h.1 k e') ((by obtain ⟨_, ho, _⟩ := h.own; exact (own_ltA ho k e').1))
    · exact hfresh k e' (own_ltA ho' k e).1
  · refine Kd.FK_mono (Kd.FK_step (Kd.FK_bound hy) (fun k e hl => hf.block k hl (fun e' => ?_))) (fun k e => ⟨hok k e.1.1 e.2, fun e' => ?_⟩)
    · rcases e' with e' | e'
      · subst e'; exact hg e.1.1
      · exact e.1.2 e'
    · rcases hat k e'.symm with e'' | e''
      · exact e.1.2 e''.symm
      · have := e.2; omega
theorem leaf_FK (W : World) (ok : Nat → Prop) (k : Int) (t : ByteArray) : Kd.FK k42 W ok (⟨k, t, []⟩ : Tm) [.int .i64 k, .string t, .slice none 0 0] :=
  k42_mkF W ok (⟨k, t, []⟩ : Tm) (Nat.le_refl _) (Kd.F_nil _ _ _)
def Rows (W : World) (base : Nat) : (Nat → Prop) → List (Value × List Tm) → Prop
  | _, [] => True
  | S, e :: r => ∃ ok, (∀ k, ok k → S k) ∧ TR W base ok e.1 e.2 ∧ Rows W base (fun k => S k ∧ ¬ ok k) r
theorem Rows.move {W W' : World} {base : Nat} : ∀ {S S' : Nat → Prop} {r : List (Value × List Tm)}, Rows W base S r → (∀ k, S k → k < W.heap.size → W'.heap[k]? = W.heap[k]?) → (∀ k, S k → S' k) → Rows W' base S' r
  | _, _, [], _, _, _ => trivial
  | S, S', e :: r, ⟨ok, h1, h2, h3⟩, hm, hS => ⟨ok, fun k hk => hS k (h1 k hk), h2.step (fun k hk => hm k (h1 k hk)), Rows.move h3 (fun k hk => hm k hk.1) (fun k hk => ⟨hS k hk.1, hk.2⟩)⟩
structure Op where
  ahead : List Tm
  kind : Int
  text : ByteArray
def opCells (e : Value × Op) : List Value := [e.1, .int .i64 e.2.kind, .string e.2.text, .slice none 0 0]
theorem opCells_len : ∀ r : List (Value × Op), (r.flatMap opCells).length = r.length * 4
  | [] => rfl
  | e :: r => by rw [List.flatMap_cons, List.length_append, opCells_len r]; simp [opCells]; omega
structure PS (w0 W : World) (g : Nat) (s : ByteArray) (a : Int) (fault : Int) (l : List Tm) (st : List Op) : Prop where
  below : Below w0.heap.size w0 W
  geb : w0.heap.size ≤ g
  mem : ∃ vl vs avs, List.length avs = st.length ∧ Pz W g s a fault vl vs ∧ W.ownsRow w0.heap.size 203 4 vs st.length ((avs.zip st).reverse.flatMap opCells) ∧
    Rows W w0.heap.size (fun k => k < W.heap.size ∧ k ≠ g ∧ some k ≠ vs.ownBlock) ((vl, l) :: avs.zip (st.map (·.ahead)))
theorem PS.lt {w0 W : World} {g : Nat} {s : ByteArray} {a fault : Int} {l : List Tm} {st : List Op} (h : PS w0 W g s a fault l st) : g < W.heap.size := by
  obtain ⟨_, _, _, _, hp, _⟩ := h.mem; exact (Array.getElem?_eq_some_iff.1 hp).1
theorem PS.field {w0 W W' : World} {g : Nat} {s : ByteArray} {a a' fault fault' : Int} {l : List Tm} {st : List Op} (h : PS w0 W g s a fault l st) (hg : W.grownBy W' (some g)) (hp : ∀ vl vs, Pz W g s a fault vl vs → Pz W' g s a' fault' vl vs) : PS w0 W' g s a' fault' l st := by
  obtain ⟨vl, vs, avs, h1, h2, h3, h4⟩ := h.mem; have hne : some g ≠ vs.ownBlock := own_neG h3 (by decide) h2; refine ⟨h.below.grown hg h.below.size (fun k e => by cases e; exact h.geb), h.geb, vl, vs, avs, h1, hp _ _ h2, own_grown h3 hg (fun b e e' => hne (by rw [e]; exact e'.symm)), Rows.move h4 (fun k hk hl => hg.block k hl (fun e => hk.2.1 (by cases e; rfl))) (fun k hk => ⟨Nat.lt_of_lt_of_le hk.1 hg.size, hk.2⟩)⟩
theorem PS.drewN {w0 W : World} {g n : Nat} {s : ByteArray} {a fault : Int} {l : List Tm} {st : List Op} (h : PS w0 W g s a fault l st) : PS w0 (W.drewN n) g s a fault l st := by
  have hg : W.grownBy (W.drewN n) (some g) := ⟨rfl, rfl, rfl, Nat.le_refl _, fun _ _ _ => rfl⟩; exact h.field hg (fun _ _ hp => hp)
end Go.Proofs.Ytjhjhhibbmligaa.TE
end
