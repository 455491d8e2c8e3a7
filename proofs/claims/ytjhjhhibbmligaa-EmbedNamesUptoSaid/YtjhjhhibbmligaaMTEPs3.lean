/- The parser: end at a general state. -/
import Derived.Test.YtjhjhhibbmligaaMTEPa
import Derived.Lib.BufferMore
import Derived.Deep.LoopGhost
section
namespace Go.Proofs.Ytjhjhhibbmligaa.TE
open Go.RowKit Go.Shelf Go.Proofs.YtjhjhhibbmligaaW.PrintWords Go.Proofs.YtjhjhhibbmligaaW.PrintLast Go.Proofs.YtjhjhhibbmligaaW.PrintMore Go.Proofs.Ytjhjhhibbmligaa.Evs
set_option linter.unusedVariables false
set_option linter.unusedSimpArgs false
theorem grown_da (w : World) (o : Obj) : w.grownBy (w.drew.alloc o) none := by
  have h := World.grownBy_alloc w.drew o none; exact ⟨h.os, h.tape, h.output, h.size, h.block⟩
theorem zero_at (w : World) : ∀ j u, ([.int .i64 0, .string ⟨#[]⟩, .slice none 0 0] : List Value)[j]? = some u → (w.drew.alloc (.cells #[.int .i64 0, .string ⟨#[]⟩, .slice none 0 0] 42)).cell? ((⟨w.heap.size, 0, none⟩ : Addr).add j) = some u := by
  intro j u hj; rw [add_plain]; refine (q4 (World.alloc_heap_new w.drew _) j).trans ?_
  match j, hj with
  | 0, hj => exact hj
  | 1, hj => exact hj
  | 2, hj => exact hj
theorem new_own {W : World} {v : Value} {b5 n c5 : Nat} (h : some b5 = v.ownBlock ∨ W.heap.size ≤ b5) : ∀ b, (Value.slice (some ⟨b5, 0, none⟩) n c5).ownBlock = some b → v.ownBlock = some b ∨ W.heap.size ≤ b := by
  intro b hb
  obtain rfl : b5 = b := by simpa [Value.ownBlock] using hb
  exact h.imp Eq.symm id
theorem add_finA {W w5 : World} {g base n b5 c5 : Nat} {s : ByteArray} {at_ fault : Int} {v vs v6 t0 t1 t2 z0 z1 z2 : Value} {xs : List Value} (h6 : v6 = .bool true) (hp : Aside0 (Pz w5 g s at_ fault v vs)) (ho : Aside0 (w5.ownsRow base 42 3 (.slice (some ⟨b5, 0, none⟩) (n + 1) c5) (n + 1) (xs ++ [z0, z1, z2])))
    (hf : Aside0 (Fr W w5 (fun i => some i = v.ownBlock))) (hn : Aside0 (some b5 = v.ownBlock ∨ W.heap.size ≤ b5)) (hxs : xs.length = n * 3) (hgb : g ≠ b5) :
    Ending.returned v6 = .returned (.bool true) ∧ ∃ vl', Pz ((((w5.setCell ⟨b5, n * 3, none⟩ t0).setCell ⟨b5, n * 3 + 1, none⟩ t1).setCell ⟨b5, n * 3 + 2, none⟩ t2).setCell ⟨g, 3, none⟩ (.slice (some ⟨b5, 0, none⟩) (n + 1) c5)) g s at_ fault vl' vs ∧
      ((((w5.setCell ⟨b5, n * 3, none⟩ t0).setCell ⟨b5, n * 3 + 1, none⟩ t1).setCell ⟨b5, n * 3 + 2, none⟩ t2).setCell ⟨g, 3, none⟩ (.slice (some ⟨b5, 0, none⟩) (n + 1) c5)).ownsRow base 42 3 vl' (n + 1) (xs ++ [t0, t1, t2]) ∧ (∀ b, vl'.ownBlock = some b → v.ownBlock = some b ∨ W.heap.size ≤ b) ∧
      Fr W ((((w5.setCell ⟨b5, n * 3, none⟩ t0).setCell ⟨b5, n * 3 + 1, none⟩ t1).setCell ⟨b5, n * 3 + 2, none⟩ t2).setCell ⟨g, 3, none⟩ (.slice (some ⟨b5, 0, none⟩) (n + 1) c5)) (fun i => i = g ∨ some i = v.ownBlock) := by
  obtain ⟨h1, h2⟩ := row_stored t0 t1 t2 ho.out hxs; refine ⟨by rw [h6], _, (((hp.out.far b5 _ _ hgb).far b5 _ _ hgb).far b5 _ _ hgb).setList _, own_far h1 g 3 _ ?_, new_own hn.out, fin_fr hf.out hn.out h2 (grown_set _ g 3 _)⟩; simp [Value.ownBlock]; exact hgb
theorem add_finB {W w5 : World} {g base n b5 c5 : Nat} {s : ByteArray} {at_ fault : Int} {v vs v6 t0 t1 t2 z0 z1 z2 : Value} {xs : List Value} (h6 : v6 = .bool true) (hp : Aside0 (Pz w5 g s at_ fault v vs)) (ho : Aside0 (w5.ownsRow base 42 3 (.slice (some ⟨b5, 0, none⟩) (n + 1) c5) (n + 1) (xs ++ [z0, z1, z2])))
    (hf : Aside0 (Fr W w5 (fun i => some i = v.ownBlock))) (hn : Aside0 (some b5 = v.ownBlock ∨ W.heap.size ≤ b5)) (hxs : xs.length = n * 3) (hgb : g ≠ b5) :
    Ending.returned v6 = .returned (.bool true) ∧ ∃ vl', Pz ((((w5.setCell ⟨g, 3, none⟩ (.slice (some ⟨b5, 0, none⟩) (n + 1) c5)).setCell ⟨b5, n * 3, none⟩ t0).setCell ⟨b5, n * 3 + 1, none⟩ t1).setCell ⟨b5, n * 3 + 2, none⟩ t2) g s at_ fault vl' vs ∧
      ((((w5.setCell ⟨g, 3, none⟩ (.slice (some ⟨b5, 0, none⟩) (n + 1) c5)).setCell ⟨b5, n * 3, none⟩ t0).setCell ⟨b5, n * 3 + 1, none⟩ t1).setCell ⟨b5, n * 3 + 2, none⟩ t2).ownsRow base 42 3 vl' (n + 1) (xs ++ [t0, t1, t2]) ∧ (∀ b, vl'.ownBlock = some b → v.ownBlock = some b ∨ W.heap.size ≤ b) ∧
      Fr W ((((w5.setCell ⟨g, 3, none⟩ (.slice (some ⟨b5, 0, none⟩) (n + 1) c5)).setCell ⟨b5, n * 3, none⟩ t0).setCell ⟨b5, n * 3 + 1, none⟩ t1).setCell ⟨b5, n * 3 + 2, none⟩ t2) (fun i => i = g ∨ some i = v.ownBlock) := by
  have hgo : some g ≠ (Value.slice (some ⟨b5, 0, none⟩) (n + 1) c5).ownBlock := by simp [Value.ownBlock]; exact hgb
  obtain ⟨h1, h2⟩ := row_stored t0 t1 t2 (own_far ho.out g 3 (.slice (some ⟨b5, 0, none⟩) (n + 1) c5) hgo) hxs; exact ⟨by rw [h6], _, (((hp.out.setList _).far b5 _ _ hgb).far b5 _ _ hgb).far b5 _ _ hgb, h1, new_own hn.out, fin_fr2 hf.out hn.out (grown_set _ g 3 _) h2⟩
set_option maxRecDepth 100000 in
set_option maxHeartbeats 4000000 in
theorem add1.calls (g base : Nat) (s : ByteArray) (at_ fault x : Int) (vl vs : Value) (n : Nat) (xs : List Value) (k : Int) (tx : ByteArray) (A : Option Addr) (c : Nat) (l : List Tm) (kk : Nat) (W : World) (h : Pz W g s at_ fault vl vs) (ho : W.ownsRow base 42 3 vl n xs) (hb : base ≤ g) (hn8 : n ≤ 1099511627776) (hxs : xs.length = n * 3) (hC : Kd.C k42 W A l.length l) (hc : l.length ≤ c)
    (hr : term_right.f kk k tx l = some true) :
    Calls Try.prog 159 #[.pointer (some ⟨g, 0, none⟩), .agg #[.int .i64 k, .string tx, .slice A l.length c], .int .i64 x] W fun e W' => e = .returned (.bool true) ∧ ∃ vl', Pz W' g s at_ fault vl' vs ∧ W'.ownsRow base 42 3 vl' (n + 1) (xs ++ [.int .i64 k, .string tx, .slice A l.length c]) ∧ (∀ b, vl'.ownBlock = some b → vl.ownBlock = some b ∨ W.heap.size ≤ b) ∧ Fr W W' (fun i => i = g ∨ some i = vl.ownBlock) := by
  have hbl : Below W.heap.size W (W.alloc (.cells #[.int .i64 k, .string tx, .slice A l.length c] 42)) := (Below.refl _ _).alloc (Nat.le_refl _) _; have hn0 := World.alloc_heap_new W (.cells #[.int .i64 k, .string tx, .slice A l.length c] 42); obtain ⟨W0, hW0⟩ : ∃ W0, W.alloc (.cells #[.int .i64 k, .string tx, .slice A l.length c] 42) = W0 := ⟨_, rfl⟩; have HW0 := Aside0.mk hW0; rw [hW0] at hbl hn0; have x0 : W0.cell? ⟨W.heap.size, 0, none⟩ = some (.int .i64 k) := (q4 hn0 0).trans rfl; have x1 : W0.cell? ⟨W.heap.size, 1, none⟩ = some (.string tx) := (q4 hn0 1).trans rfl; have x2 : W0.cell? ⟨W.heap.size, 2, none⟩ = some (.slice A l.length c) := (q4 hn0 2).trans rfl; have hp0 : Pz W0 g s at_ fault vl vs := (hbl.block g (Array.getElem?_eq_some_iff.1 h).1).trans h; have hcall := term_right.calls kk k tx A c l true W0 (Kd.C_below hC hbl) hc hr; have HCALL := Aside0.mk hcall; have HP0 := Aside0.mk hp0; have HBL := Aside0.mk hbl; have HN0 := Aside0.mk hn0; have HOW := Aside0.mk ho; clear hcall hp0 hbl hW0 hn0 hC ho h
  go_enter Try.func159, Try.ntmps159
  go_wp2_with fail
  rw [HW0.out]; refine HCALL.out.mono ?_; rintro e w1 ⟨rfl, hb1⟩; have HP1 := Aside0.mk (show Pz w1 g s at_ fault vl vs from (hb1.block g (Array.getElem?_eq_some_iff.1 HP0.out).1).trans HP0.out); have HB1 := Aside0.mk (HBL.out.trans (hb1.mono HBL.out.size)); have HX0 := (hb1.block _ (Array.getElem?_eq_some_iff.1 HN0.out).1).trans HN0.out; have HO1 := HOW.out; clear hb1; have hx0 : w1.heap[W.heap.size]? = some (.cells #[.int .i64 k, .string tx, .slice A l.length c] 42 (0, 0)) := HX0
  obtain ⟨av, cv, hvl⟩ : ∃ av cv, vl = .slice av n cv := by
    rcases HOW.out.2 with ⟨hv, h0⟩ | ⟨b, cap, cur, hv, _⟩
    · exact ⟨none, 0, by rw [hv, h0]⟩
    · exact ⟨_, _, hv⟩
  subst hvl; obtain ⟨p0, p1, p2, p3, p4⟩ := HP1.out.cells; have y0 : w1.cell? ⟨W.heap.size, 0, none⟩ = some (.int .i64 k) := (q4 hx0 0).trans rfl; have y1 : w1.cell? ⟨W.heap.size, 1, none⟩ = some (.string tx) := (q4 hx0 1).trans rfl; have y2 : w1.cell? ⟨W.heap.size, 2, none⟩ = some (.slice A l.length c) := (q4 hx0 2).trans rfl; have hgl : g < w1.heap.size := (Array.getElem?_eq_some_iff.1 HP1.out).1; have hwl : W.heap.size < w1.heap.size := (Array.getElem?_eq_some_iff.1 hx0).1; have HX0' := Aside0.mk hx0; clear hx0 p0 p1 p2 p4
  go_wp2_with fail
  obtain ⟨i0, hi, hz0, hz1, hz2⟩ := info_parts info_term
  have hnn : (n : Int) < (n : Int) + 1 := by omega
  have hnn0 : (0 : Int) ≤ (n : Int) := Int.natCast_nonneg _; have hbs : base ≤ w1.heap.size := Nat.le_trans hb (Nat.le_of_lt hgl); have HOA : Aside0 (w1.ownsRow base 42 3 (.slice av n cv) n xs) := ⟨own_below3 HOW.out HB1.out⟩
  go_region_law ((refine step_append_own2 _ rfl _ _ 22 rfl base 42 i0 (.agg #[.int .i64 0, .string ⟨#[]⟩, .slice none 0 0]) 3 48 Try.underlying22 hi hz0 hz1 hz2 rfl (by decide) _ _ _ rfl (HOA.out.drew.alloc _) ⟨w1.heap.size, 0, none⟩ 1 1 [.int .i64 0, .string ⟨#[]⟩, .slice none 0 0] rfl rfl (zero_at w1) (by simp [Value.oneCell']) (by simp only [maxLen]; omega) (by omega) (by simp; omega) ?_; intro v5 w5 hown5 hgrow5 hnew5; have HF5 := Aside0.mk (show Fr W w5 (fun i => some i = (Value.slice av n cv).ownBlock) from ((Fr.mk HB1.out.os HB1.out.tape HB1.out.output HB1.out.size (fun i hi _ => HB1.out.block i hi) : Fr W w1 _).trans (Fr.of_grown (row := none) (grown_da w1 (.cells #[.int .i64 0, .string ⟨#[]⟩, .slice none 0 0] 42)) (fun i e => nomatch e))).trans (Fr.of_grown hgrow5 (fun i e => e.symm))); obtain ⟨b5, c5, hv5⟩ : ∃ b5 c5, v5 = .slice (some ⟨b5, 0, none⟩) (n + 1) c5 := (by rcases hown5.2 with ⟨_, h0⟩ | ⟨b, cap, cur, hv, _⟩; (· omega); (· exact ⟨_, _, hv⟩)); subst hv5; obtain ⟨q0, q1, q2, r0, r1, r2⟩ := row_facts hown5 hxs; have HP5 : Pz w5 g s at_ fault (.slice av n cv) vs := Pz.grown (Pz.grown (show Pz w1.drew g s at_ fault (.slice av n cv) vs from HP1.out) (World.grownBy_alloc w1.drew (.cells #[.int .i64 0, .string ⟨#[]⟩, .slice none 0 0] 42) none) (by simp)) hgrow5 (own_ne HOA.out HP1.out); have hb5g : b5 ≠ g := (fun e => own_ne hown5 HP5 (by rw [e]; rfl)); have p53 := HP5.cells.2.2.2.1; have pf3 := HP5.fz 3; have HO5 := Aside0.mk hown5; have HG5 := Aside0.mk hgrow5; have HP5' := Aside0.mk HP5; have hgl5 : g < w5.heap.size := (Array.getElem?_eq_some_iff.1 HP5).1; have hgb : g ≠ b5 := hb5g.symm; have HNEW5 : Aside0 (some b5 = (Value.slice av n cv).ownBlock ∨ W.heap.size ≤ b5) := ⟨(hnew5 b5 rfl).imp Eq.symm (fun h => Nat.le_trans HB1.out.size (Nat.le_trans (by simp) h))⟩; clear hown5 hgrow5 HP5 hnew5 HG5))
  all_goals
    clear q0 q1 q2 r0 r1 r2 p53 pf3 p3 y0 y1 y2
    go_wp2
    go_ret
    first
    | (with_reducible refine add_finA ?_ HP5' HO5 HF5 HNEW5 hxs hgb)
    | (with_reducible refine add_finB ?_ HP5' HO5 HF5 HNEW5 hxs hgb)
    rfl
end Go.Proofs.Ytjhjhhibbmligaa.TE
namespace Go.Proofs.Ytjhjhhibbmligaa.TE
open Go.RowKit Go.Shelf Go.Proofs.YtjhjhhibbmligaaW.PrintWords Go.Proofs.YtjhjhhibbmligaaW.PrintLast Go.Proofs.YtjhjhhibbmligaaW.PrintMore Go.Proofs.Ytjhjhhibbmligaa.Evs
set_option linter.unusedVariables false
set_option linter.unusedSimpArgs false
theorem info_open : (Try.prog.info? 203).map (fun i => (i.zero, i.size, i.bytes)) = some (some (.agg #[.slice none 0 0, .int .i64 0, .string ⟨#[]⟩, .slice none 0 0]), 4, 72) := by kernel_rfl
theorem own_farG {w : World} {base n e z : Nat} {v : Value} {xs : List Value} (h : w.ownsRow base e z v n xs) (g i : Nat) (u : Value) (hne : some g ≠ v.ownBlock) : (w.setCell ⟨g, i, none⟩ u).ownsRow base e z v n xs := by
  obtain ⟨h1, h2⟩ := h; refine ⟨h1, ?_⟩
  rcases h2 with h2 | ⟨b, cap, cur, rfl, hb, hh, r⟩
  · exact .inl h2
  · exact .inr ⟨b, cap, cur, rfl, hb, (Below.heap_setCell w ⟨g, i, none⟩ u b (fun e => hne (by rw [show g = b from e.symm]; rfl))).trans hh, r⟩
theorem own_below4 {w W : World} {base n e z : Nat} {v : Value} {xs : List Value} (h : w.ownsRow base e z v n xs) (hb : Below w.heap.size w W) : W.ownsRow base e z v n xs := by
  obtain ⟨h1, h2⟩ := h; refine ⟨h1, ?_⟩
  rcases h2 with h2 | ⟨b, cap, cur, rfl, hbb, hh, r⟩
  · exact .inl h2
  · exact .inr ⟨b, cap, cur, rfl, hbb, (hb.block b (Array.getElem?_eq_some_iff.1 hh).1).trans hh, r⟩
theorem own_neG {w : World} {base n e z : Nat} {v : Value} {xs : List Value} {g : Nat} {s : ByteArray} {at_ fault : Int} {vl vs : Value} (h : w.ownsRow base e z v n xs) (he : e ≠ 142) (hp : Pz w g s at_ fault vl vs) : some g ≠ v.ownBlock := by
  rcases h.2 with ⟨rfl, _⟩ | ⟨b, cap, cur, rfl, _, hk, _⟩
  · simp [Value.ownBlock]
  · intro e
    obtain rfl : g = b := by simpa [Value.ownBlock] using e
    rw [show w.heap[g]? = _ from hp] at hk
    injection hk with hk
    injection hk with _ h2 _
    exact absurd h2.symm he
theorem begin_fin {W w5 : World} {g base n b5 c5 : Nat} {s : ByteArray} {at_ fault : Int} {v vl v6 : Value} {xs : List Value} (h6 : v6 = .bool true) (hp : Aside0 (Pz w5 g s at_ fault vl v)) (ho : Aside0 (w5.ownsRow base 203 4 (.slice (some ⟨b5, 0, none⟩) (n + 1) c5) (n + 1) xs))
    (hf : Aside0 (Fr W w5 (fun i => some i = v.ownBlock))) (hn : Aside0 (some b5 = v.ownBlock ∨ W.heap.size ≤ b5)) (hgb : g ≠ b5) :
    Ending.returned v6 = .returned (.bool true) ∧ ∃ vs', Pz ((w5.setCell ⟨g, 4, none⟩ (.slice (some ⟨b5, 0, none⟩) (n + 1) c5)).setCell ⟨g, 3, none⟩ (.slice none 0 0)) g s at_ fault (.slice none 0 0) vs' ∧
      ((w5.setCell ⟨g, 4, none⟩ (.slice (some ⟨b5, 0, none⟩) (n + 1) c5)).setCell ⟨g, 3, none⟩ (.slice none 0 0)).ownsRow base 203 4 vs' (n + 1) xs ∧ (∀ b, vs'.ownBlock = some b → v.ownBlock = some b ∨ W.heap.size ≤ b) ∧
      Fr W ((w5.setCell ⟨g, 4, none⟩ (.slice (some ⟨b5, 0, none⟩) (n + 1) c5)).setCell ⟨g, 3, none⟩ (.slice none 0 0)) (fun i => i = g ∨ some i = v.ownBlock) := by
  have hgo : some g ≠ (Value.slice (some ⟨b5, 0, none⟩) (n + 1) c5).ownBlock := by simp [Value.ownBlock]; exact hgb
  refine ⟨by rw [h6], _, (hp.out.setStack _).setList _, own_farG (own_farG ho.out g 4 _ hgo) g 3 _ hgo, new_own hn.out, ?_⟩; exact fr_step (T := fun i => i = g ∨ some i = v.ownBlock) (fr_step (T := fun i => i = g ∨ some i = v.ownBlock) hf.out (.inl (.inl rfl)) (grown_set _ g 4 _) (fun i e => .inr e)) (.inl (.inl rfl)) (grown_set _ g 3 _) (fun i e => e)
theorem open_at (w : World) (v x y z : Value) : ∀ j u, ([v, x, y, z] : List Value)[j]? = some u → (w.drew.alloc (.cells #[v, x, y, z] 203)).cell? ((⟨w.heap.size, 0, none⟩ : Addr).add j) = some u := by
  intro j u hj; rw [add_plain]; refine (q4 (World.alloc_heap_new w.drew _) j).trans ?_
  match j, hj with
  | 0, hj => exact hj
  | 1, hj => exact hj
  | 2, hj => exact hj
  | 3, hj => exact hj
set_option maxRecDepth 100000 in
set_option maxHeartbeats 4000000 in
theorem begin.calls (g base : Nat) (s : ByteArray) (at_ fault : Int) (av : Option Addr) (nv cv : Nat) (vs : Value) (n : Nat) (ys : List Value) (k : Int) (tx : ByteArray) (A : Option Addr) (m c : Nat) (W : World) (h : Pz W g s at_ fault (.slice av nv cv) vs) (ho : W.ownsRow base 203 4 vs n ys) (hb : base ≤ g) (hn8 : n ≤ 1099511627776) :
    Calls Try.prog 162 #[.pointer (some ⟨g, 0, none⟩), .agg #[.int .i64 k, .string tx, .slice A m c]] W fun e W' => e = .returned (.bool true) ∧ ∃ vs', Pz W' g s at_ fault (.slice none 0 0) vs' ∧ W'.ownsRow base 203 4 vs' (n + 1) (ys ++ [.slice av nv cv, .int .i64 k, .string tx, .slice A m c]) ∧ (∀ b, vs'.ownBlock = some b → vs.ownBlock = some b ∨ W.heap.size ≤ b) ∧ Fr W W' (fun i => i = g ∨ some i = vs.ownBlock) := by
  have hbl : Below W.heap.size W (W.alloc (.cells #[.int .i64 k, .string tx, .slice A m c] 42)) := (Below.refl _ _).alloc (Nat.le_refl _) _; have hn0 := World.alloc_heap_new W (.cells #[.int .i64 k, .string tx, .slice A m c] 42); obtain ⟨W0, hW0⟩ : ∃ W0, W.alloc (.cells #[.int .i64 k, .string tx, .slice A m c] 42) = W0 := ⟨_, rfl⟩; have HW0 := Aside0.mk hW0; rw [hW0] at hbl hn0; have x0 : W0.cell? ⟨W.heap.size, 0, none⟩ = some (.int .i64 k) := (q4 hn0 0).trans rfl; have x1 : W0.cell? ⟨W.heap.size, 1, none⟩ = some (.string tx) := (q4 hn0 1).trans rfl; have x2 : W0.cell? ⟨W.heap.size, 2, none⟩ = some (.slice A m c) := (q4 hn0 2).trans rfl; have hp0 : Pz W0 g s at_ fault (.slice av nv cv) vs := (hbl.block g (Array.getElem?_eq_some_iff.1 h).1).trans h; have HBL := Aside0.mk hbl
  obtain ⟨avs, cvs, hvs⟩ : ∃ avs cvs, vs = .slice avs n cvs := by
    rcases ho.2 with ⟨hv, h0⟩ | ⟨b, cap, cur, hv, _⟩
    · exact ⟨none, 0, by rw [hv, h0]⟩
    · exact ⟨_, _, hv⟩
  subst hvs; have HOA : Aside0 (W0.ownsRow base 203 4 (.slice avs n cvs) n ys) := ⟨own_below4 ho hbl⟩; obtain ⟨p0, p1, p2, p3, p4⟩ := hp0.cells; have pf3 := hp0.fz 3; have pf4 := hp0.fz 4; have HP0 := Aside0.mk hp0; have hgl : g < W0.heap.size := (Array.getElem?_eq_some_iff.1 hp0).1; have hbs : base ≤ W0.heap.size := Nat.le_trans hb (Nat.le_of_lt hgl); clear hbl hW0 hn0 ho h hp0 p0 p1 p2; obtain ⟨i0, hi, hz0, hz1, hz2⟩ := info_parts info_open
  go_enter Try.func162, Try.ntmps162
  go_wp2_with fail
  rw [HW0.out]; clear HW0
  go_region_law ((refine step_append_own2 _ rfl _ _ 140 rfl base 203 i0 (.agg #[.slice none 0 0, .int .i64 0, .string ⟨#[]⟩, .slice none 0 0]) 4 72 Try.underlying140 hi hz0 hz1 hz2 rfl (by decide) _ _ _ rfl (HOA.out.drew.alloc _) ⟨W0.heap.size, 0, none⟩ 1 1 [.slice av nv cv, .int .i64 k, .string tx, .slice A m c] rfl rfl (open_at W0 _ _ _ _) (by simp [Value.oneCell']) (by simp only [maxLen]; omega) (by omega) (by simp; omega) ?_; intro v5 w5 hown5 hgrow5 hnew5; have HF5 := Aside0.mk (show Fr W w5 (fun i => some i = (Value.slice avs n cvs).ownBlock) from ((Fr.mk HBL.out.os HBL.out.tape HBL.out.output HBL.out.size (fun i hi _ => HBL.out.block i hi) : Fr W W0 _).trans (Fr.of_grown (row := none) (grown_da W0 (.cells #[.slice av nv cv, .int .i64 k, .string tx, .slice A m c] 203)) (fun i e => nomatch e))).trans (Fr.of_grown hgrow5 (fun i e => e.symm))); obtain ⟨b5, c5, hv5⟩ : ∃ b5 c5, v5 = .slice (some ⟨b5, 0, none⟩) (n + 1) c5 := (by rcases hown5.2 with ⟨_, h0⟩ | ⟨b, cap, cur, hv, _⟩; (· omega); (· exact ⟨_, _, hv⟩)); subst hv5; have HP5 : Pz w5 g s at_ fault (.slice av nv cv) (.slice avs n cvs) := Pz.grown (Pz.grown (show Pz W0.drew g s at_ fault (.slice av nv cv) (.slice avs n cvs) from HP0.out) (World.grownBy_alloc W0.drew (.cells #[.slice av nv cv, .int .i64 k, .string tx, .slice A m c] 203) none) (by simp)) hgrow5 (own_neG HOA.out (by decide) HP0.out); have hb5g : b5 ≠ g := (fun e => own_neG hown5 (by decide) HP5 (by rw [e]; rfl)); have p54 := HP5.cells.2.2.2.2; have p53 := HP5.cells.2.2.2.1; have pf53 := HP5.fz 3; have pf54 := HP5.fz 4; have HO5 := Aside0.mk hown5; have HG5 := Aside0.mk hgrow5; have HP5' := Aside0.mk HP5; have hgl5 : g < w5.heap.size := (Array.getElem?_eq_some_iff.1 HP5).1; have hgb : g ≠ b5 := hb5g.symm; have HNEW5 : Aside0 (some b5 = (Value.slice avs n cvs).ownBlock ∨ W.heap.size ≤ b5) := ⟨(hnew5 b5 rfl).imp Eq.symm (fun h => Nat.le_trans HBL.out.size (Nat.le_trans (by simp) h))⟩; clear hown5 hgrow5 HP5 hnew5 HG5))
  all_goals
    clear x0 x1 x2 pf3 pf4 p3 p4 p54 pf54
    go_wp2
    go_ret
    (with_reducible refine begin_fin ?_ HP5' HO5 HF5 HNEW5 hgb)
    rfl
end Go.Proofs.Ytjhjhhibbmligaa.TE
end
section
namespace Go.Proofs.Ytjhjhhibbmligaa.TE
open Go.RowKit Go.Shelf Go.Proofs.YtjhjhhibbmligaaW.PrintWords Go.Proofs.YtjhjhhibbmligaaW.PrintLast Go.Proofs.YtjhjhhibbmligaaW.PrintMore Go.Proofs.Ytjhjhhibbmligaa.Evs
set_option linter.unusedVariables false
set_option linter.unusedSimpArgs false
theorem own_drop {w : World} {base n b c : Nat} {e z : Nat} {xs ys : List Value} (h : w.ownsRow base e z (.slice (some ⟨b, 0, none⟩) (n + 1) c) (n + 1) (xs ++ ys)) (hx : xs.length = n * z) : w.ownsRow base e z (.slice (some ⟨b, 0, none⟩) n c) n xs := by
  refine ⟨hx, .inr ?_⟩
  rcases h.2 with ⟨h1, _⟩ | ⟨g, cap, cur, h1, h2, h3, h4, h5, h6, h7⟩
  · simp at h1
  · have hc : c = cap := by injection h1
    have hb : b = g := by injection h1 with e1 _ _; injection e1 with e1; injection e1
    subst hc; subst hb; refine ⟨b, c, cur, rfl, h2, h3, by omega, h5, h6, ?_⟩
    have : (cur.toList.take ((n + 1) * z)).take (n * z) = xs := by rw [h7, ← hx]; simp
    rw [List.take_take] at this
    rwa [Nat.min_eq_left (Nat.mul_le_mul_right _ (by omega))] at this
theorem top_facts {w : World} {base b n c : Nat} {xs : List Value} {v x y z : Value} (h : w.ownsRow base 203 4 (.slice (some ⟨b, 0, none⟩) (n + 1) c) (n + 1) (xs ++ [v, x, y, z])) (hx : xs.length = n * 4) :
    w.cell? ⟨b, n * 4, none⟩ = some v ∧ w.cell? ⟨b, n * 4 + 1, none⟩ = some x ∧ w.cell? ⟨b, n * 4 + 2, none⟩ = some y ∧ w.cell? ⟨b, n * 4 + 3, none⟩ = some z :=
  ⟨(h.cellAt _ (by omega)).trans (by rw [List.getElem?_append_right (by omega), hx, Nat.sub_self]; rfl), (h.cellAt _ (by omega)).trans (by rw [List.getElem?_append_right (by omega), hx, show n * 4 + 1 - n * 4 = 1 by omega]; rfl),
    (h.cellAt _ (by omega)).trans (by rw [List.getElem?_append_right (by omega), hx, show n * 4 + 2 - n * 4 = 2 by omega]; rfl), (h.cellAt _ (by omega)).trans (by rw [List.getElem?_append_right (by omega), hx, show n * 4 + 3 - n * 4 = 3 by omega]; rfl)⟩
theorem own_apart {w : World} {base base' n n' e e' z z' : Nat} {v v' : Value} {xs xs' : List Value} (h : w.ownsRow base e z v n xs) (h' : w.ownsRow base' e' z' v' n' xs') (he : e ≠ e') : ∀ b, v.ownBlock = some b → some b ≠ v'.ownBlock := by
  intro b hb hb'
  rcases h.2 with ⟨rfl, _⟩ | ⟨g, cap, cur, rfl, _, hk, _⟩
  · simp [Value.ownBlock] at hb
  rcases h'.2 with ⟨rfl, _⟩ | ⟨g', cap', cur', rfl, _, hk', _⟩
  · simp [Value.ownBlock] at hb'
  obtain rfl : g = b := by simpa [Value.ownBlock] using hb
  obtain rfl : g = g' := by simpa [Value.ownBlock] using hb'
  rw [hk] at hk'
  injection hk' with h1
  injection h1 with _ h2 _
  exact he h2
theorem term_at (w : World) (x y z : Value) : ∀ j u, ([x, y, z] : List Value)[j]? = some u → (w.drew.alloc (.cells #[x, y, z] 42)).cell? ((⟨w.heap.size, 0, none⟩ : Addr).add j) = some u := by
  intro j u hj; rw [add_plain]; refine (q4 (World.alloc_heap_new w.drew _) j).trans ?_
  match j, hj with
  | 0, hj => exact hj
  | 1, hj => exact hj
  | 2, hj => exact hj
theorem own_grown {w w' : World} {base n e z : Nat} {v : Value} {xs : List Value} {row : Option Nat} (h : w.ownsRow base e z v n xs) (hg : w.grownBy w' row) (hne : ∀ b, v.ownBlock = some b → some b ≠ row) : w'.ownsRow base e z v n xs := by
  obtain ⟨h1, h2⟩ := h; refine ⟨h1, ?_⟩
  rcases h2 with h2 | ⟨b, cap, cur, rfl, hbb, hh, r⟩
  · exact .inl h2
  · exact .inr ⟨b, cap, cur, rfl, hbb, (hg.block b (Array.getElem?_eq_some_iff.1 hh).1 (hne b rfl)).trans hh, r⟩
theorem end_fin {W w5 : World} {g base n bs cs b5 c5 na : Nat} {s : ByteArray} {at_ fault : Int} {va vl v6 : Value} {xs ys zs : List Value} (h6 : v6 = .bool true) (hp : Aside0 (Pz w5 g s at_ fault vl (.slice (some ⟨bs, 0, none⟩) (n + 1) cs))) (ho : Aside0 (w5.ownsRow base 42 3 (.slice (some ⟨b5, 0, none⟩) (na + 1) c5) (na + 1) xs))
    (hk : Aside0 (w5.ownsRow base 203 4 (.slice (some ⟨bs, 0, none⟩) (n + 1) cs) (n + 1) (ys ++ zs))) (hy : Aside0 (ys.length = n * 4))
    (hf : Aside0 (Fr W w5 (fun i => i = g ∨ some i = va.ownBlock))) (hn : Aside0 (some b5 = va.ownBlock ∨ W.heap.size ≤ b5)) (hgb : g ≠ b5) (hgs : g ≠ bs) :
    Ending.returned v6 = .returned (.bool true) ∧ ∃ vl', Pz ((w5.setCell ⟨g, 3, none⟩ (.slice (some ⟨b5, 0, none⟩) (na + 1) c5)).setCell ⟨g, 4, none⟩ (.slice (some ⟨bs, 0, none⟩) n cs)) g s at_ fault vl' (.slice (some ⟨bs, 0, none⟩) n cs) ∧
      ((w5.setCell ⟨g, 3, none⟩ (.slice (some ⟨b5, 0, none⟩) (na + 1) c5)).setCell ⟨g, 4, none⟩ (.slice (some ⟨bs, 0, none⟩) n cs)).ownsRow base 203 4 (.slice (some ⟨bs, 0, none⟩) n cs) n ys ∧
      ((w5.setCell ⟨g, 3, none⟩ (.slice (some ⟨b5, 0, none⟩) (na + 1) c5)).setCell ⟨g, 4, none⟩ (.slice (some ⟨bs, 0, none⟩) n cs)).ownsRow base 42 3 vl' (na + 1) xs ∧ (∀ b, vl'.ownBlock = some b → va.ownBlock = some b ∨ W.heap.size ≤ b) ∧
      Fr W ((w5.setCell ⟨g, 3, none⟩ (.slice (some ⟨b5, 0, none⟩) (na + 1) c5)).setCell ⟨g, 4, none⟩ (.slice (some ⟨bs, 0, none⟩) n cs)) (fun i => i = g ∨ some i = va.ownBlock) := by
  have hgo : some g ≠ (Value.slice (some ⟨b5, 0, none⟩) (na + 1) c5).ownBlock := by simp [Value.ownBlock]; exact hgb
  have hgk : some g ≠ (Value.slice (some ⟨bs, 0, none⟩) n cs).ownBlock := by simp [Value.ownBlock]; exact hgs
  refine ⟨by rw [h6], _, (hp.out.setList _).setStack _, own_farG (own_farG (own_drop hk.out hy.out) g 3 _ hgk) g 4 _ hgk, own_farG (own_farG ho.out g 3 _ hgo) g 4 _ hgo, new_own hn.out, ?_⟩; exact fr_step (T := fun i => i = g ∨ some i = va.ownBlock) (fr_step (T := fun i => i = g ∨ some i = va.ownBlock) hf.out (.inl (.inl rfl)) (grown_set _ g 3 _) (fun i e => e)) (.inl (.inl rfl)) (grown_set _ g 4 _) (fun i e => e)
set_option maxRecDepth 100000 in
set_option maxHeartbeats 4000000 in
theorem end1.calls (g base : Nat) (s : ByteArray) (at_ fault : Int) (av : Option Addr) (nv cv : Nat) (bs cs n : Nat) (ys : List Value) (va : Value) (na : Nat) (xsa : List Value) (k : Int) (tx : ByteArray) (A : Option Addr) (m c : Nat) (W : World)
    (h : Pz W g s at_ fault (.slice av nv cv) (.slice (some ⟨bs, 0, none⟩) (n + 1) cs)) (ho : W.ownsRow base 203 4 (.slice (some ⟨bs, 0, none⟩) (n + 1) cs) (n + 1) (ys ++ [va, .int .i64 k, .string tx, .slice A m c])) (hys : ys.length = n * 4)
    (ha : W.ownsRow base 42 3 va na xsa) (hb : base ≤ g) (hn8 : n ≤ 1099511627776) (hna : na ≤ 1099511627776) (hat : 0 ≤ at_ ∧ at_ ≤ 1099511627776) :
    Calls Try.prog 164 #[.pointer (some ⟨g, 0, none⟩), .int .i64 k] W fun e W' => e = .returned (.bool true) ∧ ∃ vl', Pz W' g s (at_ + 1) fault vl' (.slice (some ⟨bs, 0, none⟩) n cs) ∧ W'.ownsRow base 203 4 (.slice (some ⟨bs, 0, none⟩) n cs) n ys ∧
      W'.ownsRow base 42 3 vl' (na + 1) (xsa ++ [.int .i64 k, .string tx, .slice av nv cv]) ∧ (∀ b, vl'.ownBlock = some b → va.ownBlock = some b ∨ W.heap.size ≤ b) ∧ Fr W W' (fun i => i = g ∨ some i = va.ownBlock) := by
  obtain ⟨p0, p1, p2, p3, p4⟩ := h.cells; have pf1 := h.fz 1; obtain ⟨t0, t1, t2, t3⟩ := top_facts ho hys
  obtain ⟨aa, ca, hva⟩ : ∃ aa ca, va = .slice aa na ca := by
    rcases ha.2 with ⟨hv, h0⟩ | ⟨b, cap, cur, hv, _⟩
    · exact ⟨none, 0, by rw [hv, h0]⟩
    · exact ⟨_, _, hv⟩
  subst hva; have HP := Aside0.mk h; have HO := Aside0.mk ho; have HA := Aside0.mk ha; have hgl : g < W.heap.size := (Array.getElem?_eq_some_iff.1 h).1; have hbl : bs < W.heap.size := (ho.lt bs rfl).2
  have hgb : g ≠ bs := fun e => own_neG ho (by decide) h (by rw [e]; rfl)
  have hw1 : IntKind.i64.wrap (((n + 1 : Nat) : Int) - 1) = (n : Int) := by rw [i64_w]; rw [wrap64_id (by omega) (by omega)]; omega
  have hw2 : IntKind.i64.wrap ((n : Int) + 1 - 1) = (n : Int) := by rw [i64_w]; rw [wrap64_id (by omega) (by omega)]; omega
  have hw3 : IntKind.i64.wrap (n : Int) = (n : Int) := by rw [i64_w]; rw [wrap64_id (by omega) (by omega)]
  have hw4 : IntKind.i64.wrap (at_ + 1) = at_ + 1 := by rw [i64_w]; rw [wrap64_id (by omega) (by omega)]
  have hnn : (n : Int) < (n : Int) + 1 := by omega
  have hnn0 : (0 : Int) ≤ (n : Int) := Int.natCast_nonneg _; have e0 : decide ((n : Int) < 0) = false := decide_eq_false (by omega); have HNA := Aside0.mk hna; have HYS := Aside0.mk hys; clear h ho ha hn8 hna hat hys
  go_enter Try.func164, Try.ntmps164
  go_wp2_with fail
  have hp6 : Pz (W.setCell ⟨g, 1, none⟩ (.int .i64 (at_ + 1))) g s (at_ + 1) fault (.slice av nv cv) (.slice (some ⟨bs, 0, none⟩) (n + 1) cs) := HP.out.setAt _; have hg6 := grown_set W g 1 (.int .i64 (at_ + 1)); have hga : some g ≠ (Value.slice aa na ca).ownBlock := own_neG HA.out (by decide) HP.out; have ho6 := own_farG HO.out g 1 (.int .i64 (at_ + 1)) (own_neG HO.out (by decide) HP.out); have ha6 := own_farG HA.out g 1 (.int .i64 (at_ + 1)) hga
  have hs6 : (W.setCell ⟨g, 1, none⟩ (.int .i64 (at_ + 1))).heap.size = W.heap.size := by simp [World.setCell]
  obtain ⟨W5, hW5⟩ : ∃ W5, W.setCell ⟨g, 1, none⟩ (.int .i64 (at_ + 1)) = W5 := ⟨_, rfl⟩; rw [hW5] at hp6 hg6 ho6 ha6 hs6 ⊢; have hn6 := World.alloc_heap_new W5 (.cells #[.slice aa na ca, .int .i64 k, .string tx, .slice av nv cv] 203); have hb6 : Below W5.heap.size W5 (W5.alloc (.cells #[.slice aa na ca, .int .i64 k, .string tx, .slice av nv cv] 203)) := (Below.refl _ _).alloc (Nat.le_refl _) _; obtain ⟨W6, hW6⟩ : ∃ W6, W5.alloc (.cells #[.slice aa na ca, .int .i64 k, .string tx, .slice av nv cv] 203) = W6 := ⟨_, rfl⟩; rw [hW6] at hn6 hb6 ⊢; rw [hs6] at hn6; have hF6 : Fr W W6 (fun i => i = g ∨ some i = (Value.slice aa na ca).ownBlock) := (Fr.of_grown hg6 (fun i e => by cases e; exact .inl rfl)).trans (Fr.mk hb6.os hb6.tape hb6.output hb6.size (fun i hi _ => hb6.block i hi)); have HP6 : Aside0 (Pz W6 g s (at_ + 1) fault (.slice av nv cv) (.slice (some ⟨bs, 0, none⟩) (n + 1) cs)) := ⟨(hb6.block g (Array.getElem?_eq_some_iff.1 hp6).1).trans hp6⟩; have HO6 := Aside0.mk (own_below4 ho6 hb6); have HA6 := Aside0.mk (own_below4 ha6 hb6); have HF6 := Aside0.mk hF6; have y0 : W6.cell? ⟨W.heap.size, 0, none⟩ = some (.slice aa na ca) := (q4 hn6 0).trans rfl; have y1 : W6.cell? ⟨W.heap.size, 1, none⟩ = some (.int .i64 k) := (q4 hn6 1).trans rfl; have y2 : W6.cell? ⟨W.heap.size, 2, none⟩ = some (.string tx) := (q4 hn6 2).trans rfl; have y3 : W6.cell? ⟨W.heap.size, 3, none⟩ = some (.slice av nv cv) := (q4 hn6 3).trans rfl; have z4 := HP6.out.cells.2.2.2.2; have zf3 := HP6.out.fz 3; have zf4 := HP6.out.fz 4; have hgl6 : g < W6.heap.size := (Array.getElem?_eq_some_iff.1 HP6.out).1; have hwl6 : W.heap.size < W6.heap.size := (Array.getElem?_eq_some_iff.1 hn6).1; have hbs6 : base ≤ W6.heap.size := Nat.le_trans hb (Nat.le_of_lt hgl6); obtain ⟨i0, hi, hz0, hz1, hz2⟩ := info_parts info_term
  have hcs : n ≤ cs := by
    rcases HO.out.2 with ⟨h1, _⟩ | ⟨_, cap, _, h1, _, _, h4, _⟩
    · simp at h1
    · have : cs = cap := by injection h1
      omega
  have hcsi : (n : Int) ≤ (cs : Int) := by omega
  clear hp6 hg6 ho6 ha6 hs6 hW5 hn6 hb6 hW6 hF6 p0 p1 p2 p3 p4 t0 t1 t2 t3 pf1 hw1 hw2 hw4 e0
  go_region_law ((refine step_append_own2 _ rfl _ _ 22 rfl base 42 i0 (.agg #[.int .i64 0, .string ⟨#[]⟩, .slice none 0 0]) 3 48 Try.underlying22 hi hz0 hz1 hz2 rfl (by decide) _ _ _ rfl (HA6.out.drew.alloc _) ⟨W6.heap.size, 0, none⟩ 1 1 [.int .i64 k, .string tx, .slice av nv cv] rfl rfl (term_at W6 _ _ _) (by simp [Value.oneCell']) (by have := HNA.out; simp only [maxLen]; omega) (by have := HNA.out; omega) (by simp; omega) ?_; intro v5 w5 hown5 hgrow5 hnew5; have HF5 := Aside0.mk (show Fr W w5 (fun i => i = g ∨ some i = (Value.slice aa na ca).ownBlock) from (HF6.out.trans (Fr.of_grown (row := none) (grown_da W6 (.cells #[.int .i64 k, .string tx, .slice av nv cv] 42)) (fun i e => nomatch e))).trans (Fr.of_grown hgrow5 (fun i e => .inr e.symm))); obtain ⟨b5, c5, hv5⟩ : ∃ b5 c5, v5 = .slice (some ⟨b5, 0, none⟩) (na + 1) c5 := (by rcases hown5.2 with ⟨_, h0⟩ | ⟨b, cap, cur, hv, _⟩; (· omega); (· exact ⟨_, _, hv⟩)); subst hv5; have HP5 : Pz w5 g s (at_ + 1) fault (.slice av nv cv) (.slice (some ⟨bs, 0, none⟩) (n + 1) cs) := Pz.grown (Pz.grown (show Pz W6.drew g s (at_ + 1) fault (.slice av nv cv) (.slice (some ⟨bs, 0, none⟩) (n + 1) cs) from HP6.out) (World.grownBy_alloc W6.drew (.cells #[.int .i64 k, .string tx, .slice av nv cv] 42) none) (by simp)) hgrow5 (own_neG HA6.out (by decide) HP6.out); have hb5g : b5 ≠ g := (fun e => own_neG hown5 (by decide) HP5 (by rw [e]; rfl)); have p54 := HP5.cells.2.2.2.2; have p53 := HP5.cells.2.2.2.1; have pf53 := HP5.fz 3; have pf54 := HP5.fz 4; have HO5 := Aside0.mk hown5; have HSK5 : Aside0 (w5.ownsRow base 203 4 (.slice (some ⟨bs, 0, none⟩) (n + 1) cs) (n + 1) (ys ++ [.slice aa na ca, .int .i64 k, .string tx, .slice A m c])) := ⟨own_grown (own_grown (show W6.drew.ownsRow base 203 4 (.slice (some ⟨bs, 0, none⟩) (n + 1) cs) (n + 1) (ys ++ [.slice aa na ca, .int .i64 k, .string tx, .slice A m c]) from HO6.out) (World.grownBy_alloc W6.drew (.cells #[.int .i64 k, .string tx, .slice av nv cv] 42) none) (by simp)) hgrow5 (own_apart HO6.out HA6.out (by decide))⟩; have HP5' := Aside0.mk HP5; have hgl5 : g < w5.heap.size := (Array.getElem?_eq_some_iff.1 HP5).1; have hgb5 : g ≠ b5 := hb5g.symm; have HNEW5 : Aside0 (some b5 = (Value.slice aa na ca).ownBlock ∨ W.heap.size ≤ b5) := ⟨(hnew5 b5 rfl).imp Eq.symm (fun h => Nat.le_trans HF6.out.size (Nat.le_trans (by simp) h))⟩; clear hown5 hgrow5 hnew5 HP5))
  all_goals
    clear p53 p54 pf53 pf54 z4 zf3 zf4
    go_wp2
    go_ret
    (with_reducible refine end_fin ?_ HP5' HO5 HSK5 HYS HF5 HNEW5 hgb5 hgb)
    rfl
end Go.Proofs.Ytjhjhhibbmligaa.TE
end
section
namespace Go.Proofs.Ytjhjhhibbmligaa.TE
open Go.RowKit Go.Shelf Go.Proofs.YtjhjhhibbmligaaW.PrintWords Go.Proofs.YtjhjhhibbmligaaW.PrintLast Go.Proofs.YtjhjhhibbmligaaW.PrintMore Go.Proofs.Ytjhjhhibbmligaa.Evs
set_option linter.unusedVariables false
set_option linter.unusedSimpArgs false
theorem fr_grown {A B C : World} {g : Nat} (h : Fr A B (fun i => i = g)) (k : B.grownBy C (some g)) : Fr A C (fun i => i = g) := h.trans (Fr.of_grown k (fun i e => by cases e; rfl))
theorem fr_drewN {A B : World} {S : Nat → Prop} {n : Nat} (h : Fr A B S) : Fr A (B.drewN n) S := ⟨h.os, h.tape, h.output, h.size, h.block⟩
theorem fr_below {A B C : World} {S : Nat → Prop} (h : Fr A B S) (k : Below B.heap.size B C) : Fr A C S := h.trans (Fr.mk k.os k.tape k.output k.size (fun i hi _ => k.block i hi))
theorem fr_new {A B : World} {S : Nat → Prop} (h : Fr A B S) (o : Obj) : Fr A (B.alloc o) S := fr_below h ((Below.refl _ _).alloc (Nat.le_refl _) _)
theorem Pz.newer {W W' : World} {g : Nat} {s : ByteArray} {at_ fault : Int} {vl vs : Value} (h : Pz W g s at_ fault vl vs) (hb : Below W.heap.size W W') : Pz W' g s at_ fault vl vs := (hb.block g (Array.getElem?_eq_some_iff.1 h).1).trans h
end Go.Proofs.Ytjhjhhibbmligaa.TE
namespace Go.Proofs.Ytjhjhhibbmligaa.TE
open Go.RowKit Go.Shelf Go.Proofs.YtjhjhhibbmligaaW.PrintWords Go.Proofs.YtjhjhhibbmligaaW.PrintLast Go.Proofs.YtjhjhhibbmligaaW.PrintMore Go.Proofs.Ytjhjhhibbmligaa.Evs
set_option linter.unusedVariables false
set_option linter.unusedSimpArgs false
theorem info_byte : (Try.prog.info? 5).map (fun i => (i.zero, i.size, i.bytes)) = some (some (.int .u8 0), 1, 1) := by kernel_rfl
theorem cell_new1 (w : World) (v : Value) (t : TypeId) : ∀ j u, ([v] : List Value)[j]? = some u → (w.alloc (.cells #[v] t)).cell? ((⟨w.heap.size, 0, none⟩ : Addr).add j) = some u := by
  intro j u hj; rw [add_plain]; refine (q4 (World.alloc_heap_new w _) j).trans ?_
  match j, hj with
  | 0, hj => exact hj
theorem fr_row {A B C : World} {S : Nat → Prop} {row : Option Nat} (h : Fr A B S) (k : B.grownBy C row) (hr : ∀ b, row = some b → A.heap.size ≤ b) : Fr A C S :=
  ⟨k.os.trans h.os, k.tape.trans h.tape, k.output.trans h.output, Nat.le_trans h.size k.size, fun i hi hn => (k.block i (Nat.lt_of_lt_of_le hi h.size) (fun e => by have := hr i e.symm; omega)).trans (h.block i hi hn)⟩
theorem own_drewN {w : World} {base n e z k : Nat} {v : Value} {xs : List Value} (h : w.ownsRow base e z v n xs) : (w.drewN k).ownsRow base e z v n xs := h
theorem byteCells_snoc1 (l : List UInt8) (b : UInt8) : Lib.byteCells (l ++ [b]) = Lib.byteCells l ++ [.int .u8 (b.toNat : Int)] := by simp [Lib.byteCells]
end Go.Proofs.Ytjhjhhibbmligaa.TE
end
section
namespace Go.Proofs.Ytjhjhhibbmligaa.TE
open Go.RowKit Go.Shelf Go.Proofs.YtjhjhhibbmligaaW.PrintWords Go.Proofs.YtjhjhhibbmligaaW.PrintLast Go.Proofs.YtjhjhhibbmligaaW.PrintMore Go.Proofs.Ytjhjhhibbmligaa.Evs
set_option linter.unusedVariables false
set_option linter.unusedSimpArgs false
def TR (W : World) (base : Nat) (ok : Nat → Prop) (v : Value) (l : List Tm) : Prop :=
  (∀ k, v.ownBlock = some k → ok k) ∧ OwnRow (fun x c => Kd.FK k42 W (fun k => ok k ∧ some k ≠ v.ownBlock) x c) 42 3 W base v l
theorem TR.own {W : World} {base : Nat} {ok : Nat → Prop} {v : Value} {l : List Tm} (h : TR W base ok v l) : ∃ xs, W.ownsRow base 42 3 v l.length xs ∧ Reps (fun x c => Kd.FK k42 W (fun k => ok k ∧ some k ≠ v.ownBlock) x c) 3 l xs := h.2
theorem TR.nil (W : World) (base : Nat) (ok : Nat → Prop) : TR W base ok (.slice none 0 0) [] := ⟨fun k h => by simp [Value.ownBlock] at h, OwnRow.none_ _ _ _ _ _⟩
theorem own_ltA {W : World} {base n e z : Nat} {v : Value} {xs : List Value} (h : W.ownsRow base e z v n xs) : ∀ k, v.ownBlock = some k → k < W.heap.size ∧ base ≤ k := fun k hk => by
  rcases h.2 with ⟨rfl, _⟩ | ⟨b, cap, cur, rfl, hb, hh, _⟩
  · simp [Value.ownBlock] at hk
  · obtain rfl : b = k := by simpa [Value.ownBlock] using hk
    exact ⟨(Array.getElem?_eq_some_iff.1 hh).1, hb⟩
theorem TR.mono {W : World} {base : Nat} {ok ok' : Nat → Prop} {v : Value} {l : List Tm} (h : TR W base ok v l) (hk : ∀ k, ok k → ok' k) : TR W base ok' v l :=
  ⟨fun k e => hk k (h.1 k e), h.2.imp_ (fun _ _ hf => Kd.FK_mono hf (fun k e => ⟨hk k e.1, e.2⟩))⟩
theorem TR.bound {W : World} {base : Nat} {ok : Nat → Prop} {v : Value} {l : List Tm} (h : TR W base ok v l) : TR W base (fun k => ok k ∧ k < W.heap.size) v l := by
  obtain ⟨xs, ho, hr⟩ := h.own; exact ⟨fun k e => ⟨h.1 k e, (own_ltA ho k e).1⟩, xs, ho, hr.imp_ (fun _ _ hf => Kd.FK_mono (Kd.FK_bound hf) (fun k e => ⟨⟨e.1.1, e.2⟩, e.1.2⟩))⟩
theorem own_same {W W' : World} {base n e z : Nat} {v : Value} {xs : List Value} (h : W.ownsRow base e z v n xs) (hk : ∀ k, v.ownBlock = some k → W'.heap[k]? = W.heap[k]?) : W'.ownsRow base e z v n xs := by
  obtain ⟨h1, h2⟩ := h; refine ⟨h1, ?_⟩
  rcases h2 with h2 | ⟨b, cap, cur, rfl, hbb, hh, r⟩
  · exact .inl h2
  · exact .inr ⟨b, cap, cur, rfl, hbb, (hk b rfl).trans hh, r⟩
theorem TR.step {W W' : World} {base : Nat} {ok : Nat → Prop} {v : Value} {l : List Tm} (h : TR W base ok v l) (hm : ∀ k, ok k → k < W.heap.size → W'.heap[k]? = W.heap[k]?) : TR W' base ok v l := by
  obtain ⟨xs, ho, hr⟩ := h.own; exact ⟨h.1, xs, own_same ho (fun k e => hm k (h.1 k e) (own_ltA ho k e).1), hr.imp_ (fun _ _ hf => Kd.FK_step hf (fun k e hl => hm k e.1 hl))⟩
theorem TR.slice {W : World} {base : Nat} {ok : Nat → Prop} {v : Value} {l : List Tm} (h : TR W base ok v l) : ∃ A c, v = .slice A l.length c ∧ l.length ≤ c := h.2.slice_
theorem TR.foot {W : World} {base : Nat} {ok : Nat → Prop} {A : Option Addr} {n c : Nat} {l : List Tm} (h : TR W base ok (.slice A n c) l) : n = l.length ∧ n ≤ c ∧ Kd.F k42 W ok A l.length l := by
  obtain ⟨A', c', e, hc⟩ := h.slice
  injection e with e1 e2 e3
  subst e1; subst e2; subst e3; refine ⟨rfl, hc, fun W' hW => ?_⟩; obtain ⟨A', c', e, _, hr⟩ := (h.step hW).2.reads
  injection e with e1 e2 e3
  subst e1; exact hr.imp_ (Below.refl _ _) (fun _ _ hp => Kd.FK_now hp)
theorem TR.snoc {W W' : World} {base g : Nat} {ok ok' : Nat → Prop} {v v' : Value} {l : List Tm} {xs c3 : List Value} {x : Tm} (h : TR W base ok v l) (hr : Reps (fun x c => Kd.FK k42 W (fun k => ok k ∧ some k ≠ v.ownBlock) x c) 3 l xs)
    (ho' : W'.ownsRow base 42 3 v' (l.length + 1) (xs ++ c3)) (hat : ∀ b, v'.ownBlock = some b → v.ownBlock = some b ∨ W.heap.size ≤ b) (hf : Fr W W' (fun i => i = g ∨ some i = v.ownBlock)) (hg : ¬ ok g)
    (hok : ∀ k, ok k → k < W.heap.size → ok' k) (hfresh : ∀ k, W.heap.size ≤ k → k < W'.heap.size → ok' k) (hx : Kd.FK k42 W' (fun k => ok' k ∧ some k ≠ v'.ownBlock) x c3) (hc : c3.length = 3) : TR W' base ok' v' (l ++ [x]) := by
  refine ⟨fun k e => ?_, xs ++ c3, by rw [List.length_append, List.length_singleton]; exact ho', Reps.snoc (hr.imp_ (fun y c hy => ?_)) hx hc⟩
  · rcases hat k e with e' | e'
    · exact hok k (h.1 k e') ((by obtain ⟨_, ho, _⟩ := h.own; exact (own_ltA ho k e').1))
    · exact hfresh k e' (own_ltA ho' k e).1
  · refine Kd.FK_mono (Kd.FK_step (Kd.FK_bound hy) (fun k e hl => hf.block k hl (fun e' => ?_))) (fun k e => ⟨hok k e.1.1 e.2, fun e' => ?_⟩)
    · rcases e' with e' | e'
      · subst e'; exact hg e.1.1
      · exact e.1.2 e'
    · rcases hat k e'.symm with e'' | e''
      · exact e.1.2 e''.symm
      · have := e.2; omega
theorem leaf_FK (W : World) (ok : Nat → Prop) (k : Int) (t : ByteArray) : Kd.FK k42 W ok (⟨k, t, []⟩ : Tm) [.int .i64 k, .string t, .slice none 0 0] :=
  k42_mkF W ok (⟨k, t, []⟩ : Tm) (Nat.le_refl _) (Kd.F_nil _ _ _)
def Rows (W : World) (base : Nat) : (Nat → Prop) → List (Value × List Tm) → Prop
  | _, [] => True
  | S, e :: r => ∃ ok, (∀ k, ok k → S k) ∧ TR W base ok e.1 e.2 ∧ Rows W base (fun k => S k ∧ ¬ ok k) r
theorem Rows.move {W W' : World} {base : Nat} : ∀ {S S' : Nat → Prop} {r : List (Value × List Tm)}, Rows W base S r → (∀ k, S k → k < W.heap.size → W'.heap[k]? = W.heap[k]?) → (∀ k, S k → S' k) → Rows W' base S' r
  | _, _, [], _, _, _ => trivial
  | S, S', e :: r, ⟨ok, h1, h2, h3⟩, hm, hS => ⟨ok, fun k hk => hS k (h1 k hk), h2.step (fun k hk => hm k (h1 k hk)), Rows.move h3 (fun k hk => hm k hk.1) (fun k hk => ⟨hS k hk.1, hk.2⟩)⟩
structure Op where
  ahead : List Tm
  kind : Int
  text : ByteArray
def opCells (e : Value × Op) : List Value := [e.1, .int .i64 e.2.kind, .string e.2.text, .slice none 0 0]
theorem opCells_len : ∀ r : List (Value × Op), (r.flatMap opCells).length = r.length * 4
  | [] => rfl
  | e :: r => by rw [List.flatMap_cons, List.length_append, opCells_len r]; simp [opCells]; omega
structure PS (w0 W : World) (g : Nat) (s : ByteArray) (a : Int) (fault : Int) (l : List Tm) (st : List Op) : Prop where
  below : Below w0.heap.size w0 W
  geb : w0.heap.size ≤ g
  mem : ∃ vl vs avs, List.length avs = st.length ∧ Pz W g s a fault vl vs ∧ W.ownsRow w0.heap.size 203 4 vs st.length ((avs.zip st).reverse.flatMap opCells) ∧
    Rows W w0.heap.size (fun k => k < W.heap.size ∧ k ≠ g ∧ some k ≠ vs.ownBlock) ((vl, l) :: avs.zip (st.map (·.ahead)))
theorem PS.lt {w0 W : World} {g : Nat} {s : ByteArray} {a fault : Int} {l : List Tm} {st : List Op} (h : PS w0 W g s a fault l st) : g < W.heap.size := by
  obtain ⟨_, _, _, _, hp, _⟩ := h.mem; exact (Array.getElem?_eq_some_iff.1 hp).1
theorem PS.field {w0 W W' : World} {g : Nat} {s : ByteArray} {a a' fault fault' : Int} {l : List Tm} {st : List Op} (h : PS w0 W g s a fault l st) (hg : W.grownBy W' (some g)) (hp : ∀ vl vs, Pz W g s a fault vl vs → Pz W' g s a' fault' vl vs) : PS w0 W' g s a' fault' l st := by
  obtain ⟨vl, vs, avs, h1, h2, h3, h4⟩ := h.mem; have hne : some g ≠ vs.ownBlock := own_neG h3 (by decide) h2; refine ⟨h.below.grown hg h.below.size (fun k e => by cases e; exact h.geb), h.geb, vl, vs, avs, h1, hp _ _ h2, own_grown h3 hg (fun b e e' => hne (by rw [e]; exact e'.symm)), Rows.move h4 (fun k hk hl => hg.block k hl (fun e => hk.2.1 (by cases e; rfl))) (fun k hk => ⟨Nat.lt_of_lt_of_le hk.1 hg.size, hk.2⟩)⟩
theorem PS.drewN {w0 W : World} {g n : Nat} {s : ByteArray} {a fault : Int} {l : List Tm} {st : List Op} (h : PS w0 W g s a fault l st) : PS w0 (W.drewN n) g s a fault l st := by
  have hg : W.grownBy (W.drewN n) (some g) := ⟨rfl, rfl, rfl, Nat.le_refl _, fun _ _ _ => rfl⟩; exact h.field hg (fun _ _ hp => hp)
end Go.Proofs.Ytjhjhhibbmligaa.TE
end
section
namespace Go.Proofs.Ytjhjhhibbmligaa.TE
open Go.RowKit Go.Shelf Go.Proofs.YtjhjhhibbmligaaW.PrintWords Go.Proofs.YtjhjhhibbmligaaW.PrintLast Go.Proofs.YtjhjhhibbmligaaW.PrintMore Go.Proofs.Ytjhjhhibbmligaa.Evs
set_option linter.unusedVariables false
set_option linter.unusedSimpArgs false
theorem PS.fail {w0 W : World} {g : Nat} {s : ByteArray} {a fault : Int} {l : List Tm} {st : List Op} (h : PS w0 W g s a fault l st) (x : Int) :
    Calls Try.prog 165 #[.pointer (some ⟨g, 0, none⟩), .int .i64 x] W fun e W' => e = .returned (.bool false) ∧ PS w0 W' g s a (failF fault x) l st ∧ W.grownBy W' (some g) := by
  obtain ⟨vl, vs, avs, h1, h2, h3, h4⟩ := h.mem; refine (fail.calls g s a fault x vl vs W h2).mono ?_; rintro e W' ⟨rfl, hp, hg⟩; refine ⟨rfl, h.field hg (fun vl' vs' h2' => ?_), hg⟩
  have he : vl' = vl ∧ vs' = vs := by
    unfold Pz at h2 h2'; rw [h2] at h2'
    injection h2' with e; injection e with e _ _
    simp at e; exact ⟨e.1.symm, e.2.symm⟩
  rw [he.1, he.2]; exact hp
theorem PS.uniq {W : World} {g : Nat} {s : ByteArray} {a fault : Int} {vl vs vl' vs' : Value} (h2 : Pz W g s a fault vl vs) (h2' : Pz W g s a fault vl' vs') : vl' = vl ∧ vs' = vs := by
  unfold Pz at h2 h2'; rw [h2] at h2'
  injection h2' with e; injection e with e _ _
  simp at e; exact ⟨e.1.symm, e.2.symm⟩
theorem PS.longest {w0 W : World} {g a : Nat} {s : ByteArray} {fault : Int} {l : List Tm} {st : List Op} (h : PS w0 W g s a fault l st) (m : Int) (hs : s.size ≤ 1099511627776) (ha : a ≤ s.size) :
    Calls Try.prog 119 #[.pointer (some ⟨g, 0, none⟩), .int .u8 m] W fun e W' => e = .returned (.string (s.extract a (endF m s a))) ∧ PS w0 W' g s (endF m s a) fault l st ∧ W.grownBy W' (some g) := by
  obtain ⟨vl, vs, avs, h1, h2, h3, h4⟩ := h.mem; refine (longest.calls g s a m fault vl vs W h2 hs ha).mono ?_; rintro e W' ⟨rfl, hp, hg⟩; refine ⟨rfl, h.field hg (fun vl' vs' h2' => ?_), hg⟩; rw [(PS.uniq h2 h2').1, (PS.uniq h2 h2').2]; exact hp
theorem PS.apart {w0 W : World} {g a : Nat} {s : ByteArray} {fault : Int} {l : List Tm} {st : List Op} (h : PS w0 W g s a fault l st) (hs : s.size ≤ 1099511627776) :
    Calls Try.prog 161 #[.pointer (some ⟨g, 0, none⟩)] W fun e W' => e = .returned (.bool (!(onB s a))) ∧ PS w0 W' g s a (if onB s a = true then failF fault a else fault) l st ∧ W.grownBy W' (some g) := by
  obtain ⟨vl, vs, avs, h1, h2, h3, h4⟩ := h.mem; refine (apart.calls g s a fault vl vs W h2 hs).mono ?_; rintro e W' ⟨rfl, hp, hg⟩; refine ⟨rfl, h.field hg (fun vl' vs' h2' => ?_), hg⟩; rw [(PS.uniq h2 h2').1, (PS.uniq h2 h2').2]; exact hp
theorem fr_below0 {w0 W W' : World} {S : Nat → Prop} (hb : Below w0.heap.size w0 W) (h : Fr W W' S) (hS : ∀ k, S k → w0.heap.size ≤ k) : Below w0.heap.size w0 W' :=
  ⟨h.os.trans hb.os, h.tape.trans hb.tape, h.output.trans hb.output, Nat.le_trans hb.size h.size, fun k hk => (h.block k (Nat.lt_of_lt_of_le hk hb.size) (fun e => by have := hS k e; omega)).trans (hb.block k hk)⟩
theorem PS.add {w0 W : World} {g : Nat} {s : ByteArray} {a fault : Int} {l : List Tm} {st : List Op} (h : PS w0 W g s a fault l st) (k : Int) (tx : ByteArray) (x : Int) (kk : Nat) (r : Bool) (hr : term_right.f kk k tx [] = some r) (hl : l.length ≤ 1099511627776) :
    Calls Try.prog 159 #[.pointer (some ⟨g, 0, none⟩), .agg #[.int .i64 k, .string tx, .slice none 0 0], .int .i64 x] W fun e W' => e = .returned (.bool r) ∧ PS w0 W' g s a (if r = true then fault else failF fault x) (if r = true then l ++ [⟨k, tx, []⟩] else l) st := by
  obtain ⟨vl, vs, avs, h1, h2, h3, h4⟩ := h.mem; obtain ⟨ok, o1, o2, o3⟩ := h4; obtain ⟨xs, ho, hrep⟩ := o2.own; have hne : some g ≠ vs.ownBlock := own_neG h3 (by decide) h2
  cases r with
  | false =>
    refine (add0.calls g w0.heap.size s a fault x vl vs l.length xs k tx none 0 [] kk W h2 ho h.geb hl ho.1 (Kd.C_nil _ _) (Nat.le_refl _) hr).mono ?_; rintro e W' ⟨rfl, hp, hf⟩; refine ⟨rfl, ?_⟩; rw [if_neg (by decide), if_neg (by decide)]; refine ⟨fr_below0 h.below hf (fun k e => by rw [e]; exact h.geb), h.geb, vl, vs, avs, h1, hp, own_same h3 (fun k e => hf.block k (own_ltA h3 k e).1 (fun e' => hne (by rw [← e', e]))), Rows.move ⟨ok, o1, o2, o3⟩ (fun k hk hl => hf.block k hl (fun e => hk.2.1 e)) (fun k hk => ⟨Nat.lt_of_lt_of_le hk.1 hf.size, hk.2⟩)⟩
  | true =>
    refine (add1.calls g w0.heap.size s a fault x vl vs l.length xs k tx none 0 [] kk W h2 ho h.geb hl ho.1 (Kd.C_nil _ _) (Nat.le_refl _) hr).mono ?_; rintro e W' ⟨rfl, vl', hp, ho', hat, hf⟩; refine ⟨rfl, ?_⟩; rw [if_pos rfl, if_pos rfl]
    have hvl : ∀ k, vl.ownBlock = some k → some k ≠ vs.ownBlock := fun k e => (o1 k (o2.1 k e)).2.2
    have hgv : some g ≠ vl.ownBlock := own_ne ho h2
    have hsame : ∀ k, k < W.heap.size → k ≠ g → some k ≠ vl.ownBlock → W'.heap[k]? = W.heap[k]? := fun k hl hk hv => hf.block k hl (fun e => e.elim hk hv)
    refine ⟨fr_below0 h.below hf (fun k e => e.elim (fun e => by rw [e]; exact h.geb) (fun e => (own_ltA ho k e.symm).2)), h.geb, vl', vs, avs, h1, hp,
      own_same h3 (fun k e => hsame k (own_ltA h3 k e).1 (fun e' => hne (by rw [← e', e])) (fun e' => hvl k e'.symm e.symm)), ?_⟩
    refine ⟨fun k => (ok k ∧ k < W.heap.size) ∨ W.heap.size ≤ k ∧ k < W'.heap.size, fun k hk => ?_, ?_, ?_⟩
    · rcases hk with hk | hk
      · exact ⟨Nat.lt_of_lt_of_le hk.2 hf.size, (o1 k hk.1).2⟩
      · exact ⟨hk.2, by have := h.lt; omega, fun e => by have := (own_ltA h3 k e.symm).1; omega⟩
    · exact o2.snoc hrep ho' hat hf (fun hk => (o1 g hk).2.1 rfl) (fun k hk hl => .inl ⟨hk, hl⟩) (fun k h1 h2 => .inr ⟨h1, h2⟩) (leaf_FK _ _ _ _) rfl
    · refine Rows.move o3 (fun k hk hl => hsame k hl hk.1.2.1 (fun e => hk.2 (o2.1 k e.symm))) (fun k hk => ⟨⟨Nat.lt_of_lt_of_le hk.1.1 hf.size, hk.1.2⟩, fun e => ?_⟩)
      rcases e with e | e
      · exact hk.2 e.1
      · have := hk.1.1; omega
theorem PS.begin {w0 W : World} {g : Nat} {s : ByteArray} {a fault : Int} {l : List Tm} {st : List Op} (h : PS w0 W g s a fault l st) (k : Int) (tx : ByteArray) (hl : st.length ≤ 1099511627776) :
    Calls Try.prog 162 #[.pointer (some ⟨g, 0, none⟩), .agg #[.int .i64 k, .string tx, .slice none 0 0]] W fun e W' => e = .returned (.bool true) ∧ PS w0 W' g s a fault [] (⟨l, k, tx⟩ :: st) := by
  obtain ⟨vl, vs, avs, h1, h2, h3, h4⟩ := h.mem; obtain ⟨ok, o1, o2, o3⟩ := h4; replace o2 : TR W w0.heap.size ok vl l := o2; obtain ⟨av, cv, hv, hcv⟩ := o2.slice; subst hv; have hne : some g ≠ vs.ownBlock := own_neG h3 (by decide) h2; refine (begin.calls g w0.heap.size s a fault av l.length cv vs st.length _ k tx none 0 0 W h2 h3 h.geb hl).mono ?_; rintro e W' ⟨rfl, vs', hp, ho', hat, hf⟩; refine ⟨rfl, ?_⟩
  have hsame : ∀ k, k < W.heap.size → k ≠ g → some k ≠ vs.ownBlock → W'.heap[k]? = W.heap[k]? := fun k hl hk hv => hf.block k hl (fun e => e.elim hk hv)
  refine ⟨fr_below0 h.below hf (fun k e => e.elim (fun e => by rw [e]; exact h.geb) (fun e => (own_ltA h3 k e.symm).2)), h.geb, .slice none 0 0, vs', .slice av l.length cv :: avs, by simp [h1], hp, ?_, ?_⟩
  · have : ((Value.slice av l.length cv :: avs).zip ((⟨l, k, tx⟩ : Op) :: st)).reverse.flatMap opCells = (avs.zip st).reverse.flatMap opCells ++ [.slice av l.length cv, .int .i64 k, .string tx, .slice none 0 0] := by
      simp [opCells]
    rw [this, List.length_cons]; exact ho'
  · refine ⟨fun _ => False, fun k hk => hk.elim, TR.nil _ _ _, ok, fun k hk => ?_, ?_, ?_⟩
    · have := o1 k hk; refine ⟨⟨Nat.lt_of_lt_of_le this.1 hf.size, this.2.1, fun e => ?_⟩, fun e => e⟩
      rcases hat k e.symm with e' | e'
      · exact this.2.2 e'.symm
      · have := this.1; omega
    · exact o2.step (fun k hk hl => hsame k hl (o1 k hk).2.1 (o1 k hk).2.2)
    · refine Rows.move o3 (fun k hk hl => hsame k hl hk.1.2.1 hk.1.2.2) (fun k hk => ⟨⟨⟨Nat.lt_of_lt_of_le hk.1.1 hf.size, hk.1.2.1, fun e => ?_⟩, fun e => e⟩, hk.2⟩)
      rcases hat k e.symm with e' | e'
      · exact hk.1.2.2 e'.symm
      · have := hk.1.1; omega
end Go.Proofs.Ytjhjhhibbmligaa.TE
end
section
namespace Go.Proofs.Ytjhjhhibbmligaa.TE
open Go.RowKit Go.Shelf Go.Proofs.YtjhjhhibbmligaaW.PrintWords Go.Proofs.YtjhjhhibbmligaaW.PrintLast Go.Proofs.YtjhjhhibbmligaaW.PrintMore Go.Proofs.Ytjhjhhibbmligaa.Evs
set_option linter.unusedVariables false
set_option linter.unusedSimpArgs false
theorem own_formP {w : World} {base n e z : Nat} {v : Value} {xs : List Value} (h : w.ownsRow base e z v n xs) (hn : 0 < n) : ∃ b c, v = .slice (some ⟨b, 0, none⟩) n c ∧ n ≤ c := by
  rcases h.2 with ⟨_, h0⟩ | ⟨b, cap, cur, hv, _, _, hc, _⟩
  · omega
  · exact ⟨b, cap, hv, hc⟩
theorem own_formN {w : World} {base n e z : Nat} {v : Value} {xs : List Value} (h : w.ownsRow base e z v n xs) : ∃ A c, v = .slice A n c := by
  rcases h.2 with ⟨hv, h0⟩ | ⟨b, cap, cur, hv, _⟩
  · exact ⟨none, 0, by rw [hv, h0]⟩
  · exact ⟨_, _, hv⟩
set_option maxRecDepth 100000 in
set_option maxHeartbeats 4000000 in
theorem end_none.calls (g : Nat) (s : ByteArray) (at_ fault : Int) (vl : Value) (A : Option Addr) (cs : Nat) (k : Int) (W : World) (h : Pz W g s at_ fault vl (.slice A 0 cs)) :
    Calls Try.prog 164 #[.pointer (some ⟨g, 0, none⟩), .int .i64 k] W fun e W' => e = .returned (.bool false) ∧ Pz W' g s at_ (failF fault at_) vl (.slice A 0 cs) ∧ W.grownBy W' (some g) := by
  obtain ⟨p0, p1, p2, p3, p4⟩ := h.cells; have hcall := fail.calls g s at_ fault at_ vl (.slice A 0 cs) W h; have HCALL := Aside0.mk hcall; clear h hcall
  go_enter Try.func164, Try.ntmps164
  go_wp2_with fail
  refine HCALL.out.mono ?_; rintro e W' ⟨rfl, hp, hg⟩; have HP := Aside0.mk hp; have HG := Aside0.mk hg; clear hp hg
  go_wp2_with fail
  go_ret; exact ⟨rfl, HP.out, HG.out⟩
set_option maxRecDepth 100000 in
set_option maxHeartbeats 4000000 in
theorem end_other.calls (g base : Nat) (s : ByteArray) (at_ fault : Int) (vl : Value) (bs cs n : Nat) (ys : List Value) (va : Value) (k k' : Int) (tx : ByteArray) (A : Option Addr) (m c : Nat) (W : World)
    (h : Pz W g s at_ fault vl (.slice (some ⟨bs, 0, none⟩) (n + 1) cs)) (ho : W.ownsRow base 203 4 (.slice (some ⟨bs, 0, none⟩) (n + 1) cs) (n + 1) (ys ++ [va, .int .i64 k', .string tx, .slice A m c])) (hys : ys.length = n * 4) (hn8 : n ≤ 1099511627776) (hk : k' ≠ k) :
    Calls Try.prog 164 #[.pointer (some ⟨g, 0, none⟩), .int .i64 k] W fun e W' => e = .returned (.bool false) ∧ Pz W' g s at_ (failF fault at_) vl (.slice (some ⟨bs, 0, none⟩) (n + 1) cs) ∧ W.grownBy W' (some g) := by
  obtain ⟨p0, p1, p2, p3, p4⟩ := h.cells; obtain ⟨t0, t1, t2, t3⟩ := top_facts ho hys; have hcall := fail.calls g s at_ fault at_ vl (.slice (some ⟨bs, 0, none⟩) (n + 1) cs) W h; have HCALL := Aside0.mk hcall
  have hw1 : IntKind.i64.wrap (((n + 1 : Nat) : Int) - 1) = (n : Int) := by rw [i64_w]; rw [wrap64_id (by omega) (by omega)]; omega
  have hw2 : IntKind.i64.wrap ((n : Int) + 1 - 1) = (n : Int) := by rw [i64_w]; rw [wrap64_id (by omega) (by omega)]; omega
  have hw3 : IntKind.i64.wrap (n : Int) = (n : Int) := by rw [i64_w]; rw [wrap64_id (by omega) (by omega)]
  have hnn : (n : Int) < (n : Int) + 1 := by omega
  have hnn0 : (0 : Int) ≤ (n : Int) := Int.natCast_nonneg _; have e0 : decide ((n : Int) < 0) = false := decide_eq_false (by omega)
  have e1 : ((k' : Int) != k) = true := by simpa using hk
  clear h hcall ho hn8 hys hk
  go_enter Try.func164, Try.ntmps164
  go_wp2_with fail
  refine HCALL.out.mono ?_; rintro e W' ⟨rfl, hp, hg⟩; have HP := Aside0.mk hp; have HG := Aside0.mk hg; clear hp hg
  go_wp2_with fail
  go_ret; exact ⟨rfl, HP.out, HG.out⟩
def endS (k : Int) (a fault : Int) (l : List Tm) : List Op → Bool × Int × Int × List Tm × List Op
  | [] => (false, a, failF fault a, l, [])
  | o :: r => if o.kind = k then (true, a + 1, fault, o.ahead ++ [⟨o.kind, o.text, l⟩], r) else (false, a, failF fault a, l, o :: r)
theorem PS.end_ {w0 W : World} {g : Nat} {s : ByteArray} {a fault : Int} {l : List Tm} {st : List Op} (h : PS w0 W g s a fault l st) (k : Int) (hst : st.length ≤ 1099511627776) (hal : ∀ o ∈ st, o.ahead.length ≤ 1099511627776) (hat : 0 ≤ a ∧ a ≤ 1099511627776) :
    Calls Try.prog 164 #[.pointer (some ⟨g, 0, none⟩), .int .i64 k] W fun e W' => e = .returned (.bool (endS k a fault l st).1) ∧ PS w0 W' g s (endS k a fault l st).2.1 (endS k a fault l st).2.2.1 (endS k a fault l st).2.2.2.1 (endS k a fault l st).2.2.2.2 := by
  obtain ⟨vl, vs, avs, h1, h2, h3, h4⟩ := h.mem
  cases st with
  | nil =>
    obtain ⟨A, cs, rfl⟩ := own_formN h3; refine (end_none.calls g s a fault vl A cs k W h2).mono ?_; rintro e W' ⟨rfl, hp, hg⟩; refine ⟨rfl, h.field hg (fun vl' vs' h2' => ?_)⟩; rw [(PS.uniq h2 h2').1, (PS.uniq h2 h2').2]; exact hp
  | cons o r =>
    cases avs with
    | nil => simp at h1
    | cons va avs =>
      have hcell : ((va :: avs).zip (o :: r)).reverse.flatMap opCells = (avs.zip r).reverse.flatMap opCells ++ [va, .int .i64 o.kind, .string o.text, .slice none 0 0] := by simp [opCells]
      rw [hcell] at h3
      have hlen : ((avs.zip r).reverse.flatMap opCells).length = r.length * 4 := by
        rw [opCells_len, List.length_reverse, List.length_zip]; simp at h1; rw [h1, Nat.min_self]
      obtain ⟨bs, cs, rfl, hcs⟩ := own_formP h3 (by simp); simp only [List.length_cons] at h3 h2 hst
      by_cases hk : o.kind = k
      · have he : endS k a fault l (o :: r) = (true, a + 1, fault, o.ahead ++ [⟨o.kind, o.text, l⟩], r) := by simp [endS, hk]
        rw [he]; obtain ⟨ok, o1, o2, ok2, p1, p2, p3⟩ := h4; replace o2 : TR W w0.heap.size ok vl l := o2; replace p2 : TR W w0.heap.size ok2 va o.ahead := p2; obtain ⟨av, cv, hv, hcv⟩ := o2.slice; subst hv; obtain ⟨xs, ho, hrep⟩ := p2.own; have hne : some g ≠ (Value.slice (some ⟨bs, 0, none⟩) (r.length + 1) cs).ownBlock := own_neG h3 (by decide) h2; have hcall := end1.calls g w0.heap.size s a fault av l.length cv bs cs r.length _ va o.ahead.length xs k o.text none 0 0 W h2 (by rw [← hk]; exact h3) hlen ho h.geb (by omega) (hal o (by simp)) hat; refine hcall.mono ?_; rintro e W' ⟨rfl, vl', hp, hsk, ho', hat', hf⟩; refine ⟨rfl, ?_⟩
        have hsame : ∀ j, j < W.heap.size → j ≠ g → some j ≠ va.ownBlock → W'.heap[j]? = W.heap[j]? := fun j hl hj hv => hf.block j hl (fun e => e.elim hj hv)
        have hob : (Value.slice (some ⟨bs, 0, none⟩) r.length cs).ownBlock = (Value.slice (some ⟨bs, 0, none⟩) (r.length + 1) cs).ownBlock := rfl; refine ⟨fr_below0 h.below hf (fun j e => e.elim (fun e => by rw [e]; exact h.geb) (fun e => (own_ltA ho j e.symm).2)), h.geb, vl', .slice (some ⟨bs, 0, none⟩) r.length cs, avs, by simpa using h1, hp, hsk, ?_⟩
        have hdis : ∀ j, ok j → some j ≠ va.ownBlock := fun j hj e => (p1 j (p2.1 j e.symm)).2 hj
        refine ⟨fun j => (ok j ∧ j < W.heap.size) ∨ (ok2 j ∧ j < W.heap.size) ∨ W.heap.size ≤ j ∧ j < W'.heap.size, fun j hj => ?_, ?_, ?_⟩
        · rw [hob]
          rcases hj with hj | hj | hj
          · exact ⟨Nat.lt_of_lt_of_le hj.2 hf.size, (o1 j hj.1).2⟩
          · exact ⟨Nat.lt_of_lt_of_le hj.2 hf.size, (p1 j hj.1).1.2⟩
          · exact ⟨hj.2, by have := h.lt; omega, fun e => by have := (own_ltA h3 j e.symm).1; omega⟩
        · rw [hk]; refine p2.snoc hrep ho' hat' hf (fun hj => (p1 g hj).1.2.1 rfl) (fun j hj hl => .inr (.inl ⟨hj, hl⟩)) (fun j g1 g2 => .inr (.inr ⟨g1, g2⟩)) ?_ rfl; obtain ⟨_, hlc, hF⟩ := o2.foot; refine k42_mkF W' _ (⟨k, o.text, l⟩ : Tm) hlc (Kd.F_mono (Kd.F_step (Kd.F_bound hF) (fun j hj hl => hsame j hl (fun e => (o1 j hj.1).2.1 e) (hdis j hj.1))) (fun j hj => ⟨.inl hj, fun e => ?_⟩))
          rcases hat' j e.symm with e' | e'
          · exact hdis j hj.1 e'.symm
          · have := hj.2; omega
        · rw [hob]; refine Rows.move p3 (fun j hj hl => hsame j hl hj.1.1.2.1 (fun e => hj.2 (p2.1 j e.symm))) (fun j hj => ⟨⟨Nat.lt_of_lt_of_le hj.1.1.1 hf.size, hj.1.1.2⟩, fun e => ?_⟩)
          rcases e with e | e | e
          · exact hj.1.2 e.1
          · exact hj.2 e.1
          · have := hj.1.1.1; omega
      · have he : endS k a fault l (o :: r) = (false, a, failF fault a, l, o :: r) := by simp [endS, hk]
        rw [he]; refine (end_other.calls g w0.heap.size s a fault vl bs cs r.length _ va k o.kind o.text none 0 0 W h2 h3 hlen (by omega) hk).mono ?_; rintro e W' ⟨rfl, hp, hg⟩; refine ⟨rfl, h.field hg (fun vl' vs' h2' => ?_)⟩; rw [(PS.uniq h2 h2').1, (PS.uniq h2 h2').2]; exact hp
end Go.Proofs.Ytjhjhhibbmligaa.TE
end
