/- Packed: the parser's add and begin. -/
import Derived.Test.YtdbjjaodkapikaaHTEPa
namespace Go.Proofs.Ytdbjjaodkapikaa.TE
open Go.RowKit Go.Shelf Go.Proofs.YtdbjjaodkapikaaW.PrintWords Go.Proofs.YtdbjjaodkapikaaW.PrintLast Go.Proofs.YtdbjjaodkapikaaW.PrintMore Go.Proofs.Ytdbjjaodkapikaa.Evs
set_option linter.unusedVariables false
set_option linter.unusedSimpArgs false
theorem grown_da (w : World) (o : Obj) : w.grownBy (w.drew.alloc o) none := by
  have h := World.grownBy_alloc w.drew o none; exact ⟨h.os, h.tape, h.output, h.size, h.block⟩
theorem zero_at (w : World) : ∀ j u, ([.int .i64 0, .string ⟨#[]⟩, .slice none 0 0] : List Value)[j]? = some u → (w.drew.alloc (.cells #[.int .i64 0, .string ⟨#[]⟩, .slice none 0 0] 42)).cell? ((⟨w.heap.size, 0, none⟩ : Addr).add j) = some u := by
  intro j u hj; rw [add_plain]; refine (q10 (World.alloc_heap_new w.drew _) j).trans ?_
  match j, hj with
  | 0, hj => exact hj
  | 1, hj => exact hj
  | 2, hj => exact hj
theorem new_own {W : World} {v : Value} {b5 n c5 : Nat} (h : some b5 = v.ownBlock ∨ W.heap.size ≤ b5) : ∀ b, (Value.slice (some ⟨b5, 0, none⟩) n c5).ownBlock = some b → v.ownBlock = some b ∨ W.heap.size ≤ b := by
  intro b hb
  obtain rfl : b5 = b := by simpa [Value.ownBlock] using hb
  exact h.imp Eq.symm id
theorem add_finA {W w5 : World} {g base n b5 c5 : Nat} {s : ByteArray} {at_ fault : Int} {v vs v6 t0 t1 t2 z0 z1 z2 : Value} {xs : List Value} (h6 : v6 = .bool true) (hp : Aside0 (Pz w5 g s at_ fault v vs)) (ho : Aside0 (w5.ownsRow base 42 3 (.slice (some ⟨b5, 0, none⟩) (n + 1) c5) (n + 1) (xs ++ [z0, z1, z2])))
    (hf : Aside0 (Fr W w5 (fun i => some i = v.ownBlock))) (hn : Aside0 (some b5 = v.ownBlock ∨ W.heap.size ≤ b5)) (hxs : xs.length = n * 3) (hgb : g ≠ b5) :
    Ending.returned v6 = .returned (.bool true) ∧ ∃ vl', Pz ((((w5.setCell ⟨b5, n * 3, none⟩ t0).setCell ⟨b5, n * 3 + 1, none⟩ t1).setCell ⟨b5, n * 3 + 2, none⟩ t2).setCell ⟨g, 3, none⟩ (.slice (some ⟨b5, 0, none⟩) (n + 1) c5)) g s at_ fault vl' vs ∧
      ((((w5.setCell ⟨b5, n * 3, none⟩ t0).setCell ⟨b5, n * 3 + 1, none⟩ t1).setCell ⟨b5, n * 3 + 2, none⟩ t2).setCell ⟨g, 3, none⟩ (.slice (some ⟨b5, 0, none⟩) (n + 1) c5)).ownsRow base 42 3 vl' (n + 1) (xs ++ [t0, t1, t2]) ∧ (∀ b, vl'.ownBlock = some b → v.ownBlock = some b ∨ W.heap.size ≤ b) ∧
      Fr W ((((w5.setCell ⟨b5, n * 3, none⟩ t0).setCell ⟨b5, n * 3 + 1, none⟩ t1).setCell ⟨b5, n * 3 + 2, none⟩ t2).setCell ⟨g, 3, none⟩ (.slice (some ⟨b5, 0, none⟩) (n + 1) c5)) (fun i => i = g ∨ some i = v.ownBlock) := by
  obtain ⟨h1, h2⟩ := row_stored t0 t1 t2 ho.out hxs; refine ⟨by rw [h6], _, (((hp.out.far b5 _ _ hgb).far b5 _ _ hgb).far b5 _ _ hgb).setList _, own_far h1 g 3 _ ?_, new_own hn.out, fin_fr hf.out hn.out h2 (grown_set _ g 3 _)⟩; simp [Value.ownBlock]; exact hgb
theorem add_finB {W w5 : World} {g base n b5 c5 : Nat} {s : ByteArray} {at_ fault : Int} {v vs v6 t0 t1 t2 z0 z1 z2 : Value} {xs : List Value} (h6 : v6 = .bool true) (hp : Aside0 (Pz w5 g s at_ fault v vs)) (ho : Aside0 (w5.ownsRow base 42 3 (.slice (some ⟨b5, 0, none⟩) (n + 1) c5) (n + 1) (xs ++ [z0, z1, z2])))
    (hf : Aside0 (Fr W w5 (fun i => some i = v.ownBlock))) (hn : Aside0 (some b5 = v.ownBlock ∨ W.heap.size ≤ b5)) (hxs : xs.length = n * 3) (hgb : g ≠ b5) :
    Ending.returned v6 = .returned (.bool true) ∧ ∃ vl', Pz ((((w5.setCell ⟨g, 3, none⟩ (.slice (some ⟨b5, 0, none⟩) (n + 1) c5)).setCell ⟨b5, n * 3, none⟩ t0).setCell ⟨b5, n * 3 + 1, none⟩ t1).setCell ⟨b5, n * 3 + 2, none⟩ t2) g s at_ fault vl' vs ∧
      ((((w5.setCell ⟨g, 3, none⟩ (.slice (some ⟨b5, 0, none⟩) (n + 1) c5)).setCell ⟨b5, n * 3, none⟩ t0).setCell ⟨b5, n * 3 + 1, none⟩ t1).setCell ⟨b5, n * 3 + 2, none⟩ t2).ownsRow base 42 3 vl' (n + 1) (xs ++ [t0, t1, t2]) ∧ (∀ b, vl'.ownBlock = some b → v.ownBlock = some b ∨ W.heap.size ≤ b) ∧
      Fr W ((((w5.setCell ⟨g, 3, none⟩ (.slice (some ⟨b5, 0, none⟩) (n + 1) c5)).setCell ⟨b5, n * 3, none⟩ t0).setCell ⟨b5, n * 3 + 1, none⟩ t1).setCell ⟨b5, n * 3 + 2, none⟩ t2) (fun i => i = g ∨ some i = v.ownBlock) := by
  have hgo : some g ≠ (Value.slice (some ⟨b5, 0, none⟩) (n + 1) c5).ownBlock := by simp [Value.ownBlock]; exact hgb
  obtain ⟨h1, h2⟩ := row_stored t0 t1 t2 (own_far ho.out g 3 (.slice (some ⟨b5, 0, none⟩) (n + 1) c5) hgo) hxs; exact ⟨by rw [h6], _, (((hp.out.setList _).far b5 _ _ hgb).far b5 _ _ hgb).far b5 _ _ hgb, h1, new_own hn.out, fin_fr2 hf.out hn.out (grown_set _ g 3 _) h2⟩
set_option maxRecDepth 100000 in
set_option maxHeartbeats 4000000 in
theorem add1.calls (g base : Nat) (s : ByteArray) (at_ fault x : Int) (vl vs : Value) (n : Nat) (xs : List Value) (k : Int) (tx : ByteArray) (A : Option Addr) (c : Nat) (l : List Tm) (kk : Nat) (W : World) (h : Pz W g s at_ fault vl vs) (ho : W.ownsRow base 42 3 vl n xs) (hb : base ≤ g) (hn8 : n ≤ 1099511627776) (hxs : xs.length = n * 3) (hC : Kd.C k42 W A l.length l) (hc : l.length ≤ c)
    (hr : term_right.f kk k tx l = some true) :
    Calls Try.prog 90 #[.pointer (some ⟨g, 0, none⟩), .agg #[.int .i64 k, .string tx, .slice A l.length c], .int .i64 x] W fun e W' => e = .returned (.bool true) ∧ ∃ vl', Pz W' g s at_ fault vl' vs ∧ W'.ownsRow base 42 3 vl' (n + 1) (xs ++ [.int .i64 k, .string tx, .slice A l.length c]) ∧ (∀ b, vl'.ownBlock = some b → vl.ownBlock = some b ∨ W.heap.size ≤ b) ∧ Fr W W' (fun i => i = g ∨ some i = vl.ownBlock) := by
  have hbl : Below W.heap.size W (W.alloc (.cells #[.int .i64 k, .string tx, .slice A l.length c] 42)) := (Below.refl _ _).alloc (Nat.le_refl _) _; have hn0 := World.alloc_heap_new W (.cells #[.int .i64 k, .string tx, .slice A l.length c] 42); obtain ⟨W0, hW0⟩ : ∃ W0, W.alloc (.cells #[.int .i64 k, .string tx, .slice A l.length c] 42) = W0 := ⟨_, rfl⟩; have HW0 := Aside0.mk hW0; rw [hW0] at hbl hn0; have x0 : W0.cell? ⟨W.heap.size, 0, none⟩ = some (.int .i64 k) := (q10 hn0 0).trans rfl; have x1 : W0.cell? ⟨W.heap.size, 1, none⟩ = some (.string tx) := (q10 hn0 1).trans rfl; have x2 : W0.cell? ⟨W.heap.size, 2, none⟩ = some (.slice A l.length c) := (q10 hn0 2).trans rfl; have hp0 : Pz W0 g s at_ fault vl vs := (hbl.block g (Array.getElem?_eq_some_iff.1 h).1).trans h; have hcall := term_right.calls kk k tx A c l true W0 (Kd.C_below hC hbl) hc hr; have HCALL := Aside0.mk hcall; have HP0 := Aside0.mk hp0; have HBL := Aside0.mk hbl; have HN0 := Aside0.mk hn0; have HOW := Aside0.mk ho; clear hcall hp0 hbl hW0 hn0 hC ho h
  go_enter Try.func90, Try.ntmps90
  go_wp2_with fail
  rw [HW0.out]; refine HCALL.out.mono ?_; rintro e w1 ⟨rfl, hb1⟩; have HP1 := Aside0.mk (show Pz w1 g s at_ fault vl vs from (hb1.block g (Array.getElem?_eq_some_iff.1 HP0.out).1).trans HP0.out); have HB1 := Aside0.mk (HBL.out.trans (hb1.mono HBL.out.size)); have HX0 := (hb1.block _ (Array.getElem?_eq_some_iff.1 HN0.out).1).trans HN0.out; have HO1 := HOW.out; clear hb1; have hx0 : w1.heap[W.heap.size]? = some (.cells #[.int .i64 k, .string tx, .slice A l.length c] 42 (0, 0)) := HX0
  obtain ⟨av, cv, hvl⟩ : ∃ av cv, vl = .slice av n cv := by
    rcases HOW.out.2 with ⟨hv, h0⟩ | ⟨b, cap, cur, hv, _⟩
    · exact ⟨none, 0, by rw [hv, h0]⟩
    · exact ⟨_, _, hv⟩
  subst hvl; obtain ⟨p0, p1, p2, p3, p4⟩ := HP1.out.cells; have y0 : w1.cell? ⟨W.heap.size, 0, none⟩ = some (.int .i64 k) := (q10 hx0 0).trans rfl; have y1 : w1.cell? ⟨W.heap.size, 1, none⟩ = some (.string tx) := (q10 hx0 1).trans rfl; have y2 : w1.cell? ⟨W.heap.size, 2, none⟩ = some (.slice A l.length c) := (q10 hx0 2).trans rfl; have hgl : g < w1.heap.size := (Array.getElem?_eq_some_iff.1 HP1.out).1; have hwl : W.heap.size < w1.heap.size := (Array.getElem?_eq_some_iff.1 hx0).1; have HX0' := Aside0.mk hx0; clear hx0 p0 p1 p2 p4
  go_wp2_with fail
  obtain ⟨i0, hi, hz0, hz1, hz2⟩ := info_parts info_term
  have hnn : (n : Int) < (n : Int) + 1 := by omega
  have hnn0 : (0 : Int) ≤ (n : Int) := Int.natCast_nonneg _; have hbs : base ≤ w1.heap.size := Nat.le_trans hb (Nat.le_of_lt hgl); have HOA : Aside0 (w1.ownsRow base 42 3 (.slice av n cv) n xs) := ⟨own_below3 HOW.out HB1.out⟩
  go_region_law ((refine step_append_own2 _ rfl _ _ 22 rfl base 42 i0 (.agg #[.int .i64 0, .string ⟨#[]⟩, .slice none 0 0]) 3 48 Try.underlying22 hi hz0 hz1 hz2 rfl (by decide) _ _ _ rfl (HOA.out.drew.alloc _) ⟨w1.heap.size, 0, none⟩ 1 1 [.int .i64 0, .string ⟨#[]⟩, .slice none 0 0] rfl rfl (zero_at w1) (by simp [Value.oneCell']) (by simp only [maxLen]; omega) (by omega) (by simp; omega) ?_; intro v5 w5 hown5 hgrow5 hnew5; have HF5 := Aside0.mk (show Fr W w5 (fun i => some i = (Value.slice av n cv).ownBlock) from ((Fr.mk HB1.out.os HB1.out.tape HB1.out.output HB1.out.size (fun i hi _ => HB1.out.block i hi) : Fr W w1 _).trans (Fr.of_grown (row := none) (grown_da w1 (.cells #[.int .i64 0, .string ⟨#[]⟩, .slice none 0 0] 42)) (fun i e => nomatch e))).trans (Fr.of_grown hgrow5 (fun i e => e.symm))); obtain ⟨b5, c5, hv5⟩ : ∃ b5 c5, v5 = .slice (some ⟨b5, 0, none⟩) (n + 1) c5 := (by rcases hown5.2 with ⟨_, h0⟩ | ⟨b, cap, cur, hv, _⟩; (· omega); (· exact ⟨_, _, hv⟩)); subst hv5; obtain ⟨q0, q1, q2, r0, r1, r2⟩ := row_facts hown5 hxs; have HP5 : Pz w5 g s at_ fault (.slice av n cv) vs := Pz.grown (Pz.grown (show Pz w1.drew g s at_ fault (.slice av n cv) vs from HP1.out) (World.grownBy_alloc w1.drew (.cells #[.int .i64 0, .string ⟨#[]⟩, .slice none 0 0] 42) none) (by simp)) hgrow5 (own_ne HOA.out HP1.out); have hb5g : b5 ≠ g := (fun e => own_ne hown5 HP5 (by rw [e]; rfl)); have p53 := HP5.cells.2.2.2.1; have pf3 := HP5.fz 3; have HO5 := Aside0.mk hown5; have HG5 := Aside0.mk hgrow5; have HP5' := Aside0.mk HP5; have hgl5 : g < w5.heap.size := (Array.getElem?_eq_some_iff.1 HP5).1; have hgb : g ≠ b5 := hb5g.symm; have HNEW5 : Aside0 (some b5 = (Value.slice av n cv).ownBlock ∨ W.heap.size ≤ b5) := ⟨(hnew5 b5 rfl).imp Eq.symm (fun h => Nat.le_trans HB1.out.size (Nat.le_trans (by simp) h))⟩; clear hown5 hgrow5 HP5 hnew5 HG5))
  all_goals
    clear q0 q1 q2 r0 r1 r2 p53 pf3 p3 y0 y1 y2
    go_wp2
    go_ret
    first
    | (with_reducible refine add_finA ?_ HP5' HO5 HF5 HNEW5 hxs hgb)
    | (with_reducible refine add_finB ?_ HP5' HO5 HF5 HNEW5 hxs hgb)
    rfl
end Go.Proofs.Ytdbjjaodkapikaa.TE
namespace Go.Proofs.Ytdbjjaodkapikaa.TE
open Go.RowKit Go.Shelf Go.Proofs.YtdbjjaodkapikaaW.PrintWords Go.Proofs.YtdbjjaodkapikaaW.PrintLast Go.Proofs.YtdbjjaodkapikaaW.PrintMore Go.Proofs.Ytdbjjaodkapikaa.Evs
set_option linter.unusedVariables false
set_option linter.unusedSimpArgs false
theorem info_open : (Try.prog.info? 122).map (fun i => (i.zero, i.size, i.bytes)) = some (some (.agg #[.slice none 0 0, .int .i64 0, .string ⟨#[]⟩, .slice none 0 0]), 4, 72) := by kernel_rfl
theorem own_farG {w : World} {base n e z : Nat} {v : Value} {xs : List Value} (h : w.ownsRow base e z v n xs) (g i : Nat) (u : Value) (hne : some g ≠ v.ownBlock) : (w.setCell ⟨g, i, none⟩ u).ownsRow base e z v n xs := by
  obtain ⟨h1, h2⟩ := h; refine ⟨h1, ?_⟩
  rcases h2 with h2 | ⟨b, cap, cur, rfl, hb, hh, r⟩
  · exact .inl h2
  · exact .inr ⟨b, cap, cur, rfl, hb, (Below.heap_setCell w ⟨g, i, none⟩ u b (fun e => hne (by rw [show g = b from e.symm]; rfl))).trans hh, r⟩
theorem own_below4 {w W : World} {base n e z : Nat} {v : Value} {xs : List Value} (h : w.ownsRow base e z v n xs) (hb : Below w.heap.size w W) : W.ownsRow base e z v n xs := by
  obtain ⟨h1, h2⟩ := h; refine ⟨h1, ?_⟩
  rcases h2 with h2 | ⟨b, cap, cur, rfl, hbb, hh, r⟩
  · exact .inl h2
  · exact .inr ⟨b, cap, cur, rfl, hbb, (hb.block b (Array.getElem?_eq_some_iff.1 hh).1).trans hh, r⟩
theorem own_neG {w : World} {base n e z : Nat} {v : Value} {xs : List Value} {g : Nat} {s : ByteArray} {at_ fault : Int} {vl vs : Value} (h : w.ownsRow base e z v n xs) (he : e ≠ 72) (hp : Pz w g s at_ fault vl vs) : some g ≠ v.ownBlock := by
  rcases h.2 with ⟨rfl, _⟩ | ⟨b, cap, cur, rfl, _, hk, _⟩
  · simp [Value.ownBlock]
  · intro e
    obtain rfl : g = b := by simpa [Value.ownBlock] using e
    rw [show w.heap[g]? = _ from hp] at hk
    injection hk with hk
    injection hk with _ h2 _
    exact absurd h2.symm he
theorem begin_fin {W w5 : World} {g base n b5 c5 : Nat} {s : ByteArray} {at_ fault : Int} {v vl v6 : Value} {xs : List Value} (h6 : v6 = .bool true) (hp : Aside0 (Pz w5 g s at_ fault vl v)) (ho : Aside0 (w5.ownsRow base 122 4 (.slice (some ⟨b5, 0, none⟩) (n + 1) c5) (n + 1) xs))
    (hf : Aside0 (Fr W w5 (fun i => some i = v.ownBlock))) (hn : Aside0 (some b5 = v.ownBlock ∨ W.heap.size ≤ b5)) (hgb : g ≠ b5) :
    Ending.returned v6 = .returned (.bool true) ∧ ∃ vs', Pz ((w5.setCell ⟨g, 4, none⟩ (.slice (some ⟨b5, 0, none⟩) (n + 1) c5)).setCell ⟨g, 3, none⟩ (.slice none 0 0)) g s at_ fault (.slice none 0 0) vs' ∧
      ((w5.setCell ⟨g, 4, none⟩ (.slice (some ⟨b5, 0, none⟩) (n + 1) c5)).setCell ⟨g, 3, none⟩ (.slice none 0 0)).ownsRow base 122 4 vs' (n + 1) xs ∧ (∀ b, vs'.ownBlock = some b → v.ownBlock = some b ∨ W.heap.size ≤ b) ∧
      Fr W ((w5.setCell ⟨g, 4, none⟩ (.slice (some ⟨b5, 0, none⟩) (n + 1) c5)).setCell ⟨g, 3, none⟩ (.slice none 0 0)) (fun i => i = g ∨ some i = v.ownBlock) := by
  have hgo : some g ≠ (Value.slice (some ⟨b5, 0, none⟩) (n + 1) c5).ownBlock := by simp [Value.ownBlock]; exact hgb
  refine ⟨by rw [h6], _, (hp.out.setStack _).setList _, own_farG (own_farG ho.out g 4 _ hgo) g 3 _ hgo, new_own hn.out, ?_⟩; exact fr_step (T := fun i => i = g ∨ some i = v.ownBlock) (fr_step (T := fun i => i = g ∨ some i = v.ownBlock) hf.out (.inl (.inl rfl)) (grown_set _ g 4 _) (fun i e => .inr e)) (.inl (.inl rfl)) (grown_set _ g 3 _) (fun i e => e)
theorem open_at (w : World) (v x y z : Value) : ∀ j u, ([v, x, y, z] : List Value)[j]? = some u → (w.drew.alloc (.cells #[v, x, y, z] 122)).cell? ((⟨w.heap.size, 0, none⟩ : Addr).add j) = some u := by
  intro j u hj; rw [add_plain]; refine (q10 (World.alloc_heap_new w.drew _) j).trans ?_
  match j, hj with
  | 0, hj => exact hj
  | 1, hj => exact hj
  | 2, hj => exact hj
  | 3, hj => exact hj
set_option maxRecDepth 100000 in
set_option maxHeartbeats 4000000 in
theorem begin.calls (g base : Nat) (s : ByteArray) (at_ fault : Int) (av : Option Addr) (nv cv : Nat) (vs : Value) (n : Nat) (ys : List Value) (k : Int) (tx : ByteArray) (A : Option Addr) (m c : Nat) (W : World) (h : Pz W g s at_ fault (.slice av nv cv) vs) (ho : W.ownsRow base 122 4 vs n ys) (hb : base ≤ g) (hn8 : n ≤ 1099511627776) :
    Calls Try.prog 93 #[.pointer (some ⟨g, 0, none⟩), .agg #[.int .i64 k, .string tx, .slice A m c]] W fun e W' => e = .returned (.bool true) ∧ ∃ vs', Pz W' g s at_ fault (.slice none 0 0) vs' ∧ W'.ownsRow base 122 4 vs' (n + 1) (ys ++ [.slice av nv cv, .int .i64 k, .string tx, .slice A m c]) ∧ (∀ b, vs'.ownBlock = some b → vs.ownBlock = some b ∨ W.heap.size ≤ b) ∧ Fr W W' (fun i => i = g ∨ some i = vs.ownBlock) := by
  have hbl : Below W.heap.size W (W.alloc (.cells #[.int .i64 k, .string tx, .slice A m c] 42)) := (Below.refl _ _).alloc (Nat.le_refl _) _; have hn0 := World.alloc_heap_new W (.cells #[.int .i64 k, .string tx, .slice A m c] 42); obtain ⟨W0, hW0⟩ : ∃ W0, W.alloc (.cells #[.int .i64 k, .string tx, .slice A m c] 42) = W0 := ⟨_, rfl⟩; have HW0 := Aside0.mk hW0; rw [hW0] at hbl hn0; have x0 : W0.cell? ⟨W.heap.size, 0, none⟩ = some (.int .i64 k) := (q10 hn0 0).trans rfl; have x1 : W0.cell? ⟨W.heap.size, 1, none⟩ = some (.string tx) := (q10 hn0 1).trans rfl; have x2 : W0.cell? ⟨W.heap.size, 2, none⟩ = some (.slice A m c) := (q10 hn0 2).trans rfl; have hp0 : Pz W0 g s at_ fault (.slice av nv cv) vs := (hbl.block g (Array.getElem?_eq_some_iff.1 h).1).trans h; have HBL := Aside0.mk hbl
  obtain ⟨avs, cvs, hvs⟩ : ∃ avs cvs, vs = .slice avs n cvs := by
    rcases ho.2 with ⟨hv, h0⟩ | ⟨b, cap, cur, hv, _⟩
    · exact ⟨none, 0, by rw [hv, h0]⟩
    · exact ⟨_, _, hv⟩
  subst hvs; have HOA : Aside0 (W0.ownsRow base 122 4 (.slice avs n cvs) n ys) := ⟨own_below4 ho hbl⟩; obtain ⟨p0, p1, p2, p3, p4⟩ := hp0.cells; have pf3 := hp0.fz 3; have pf4 := hp0.fz 4; have HP0 := Aside0.mk hp0; have hgl : g < W0.heap.size := (Array.getElem?_eq_some_iff.1 hp0).1; have hbs : base ≤ W0.heap.size := Nat.le_trans hb (Nat.le_of_lt hgl); clear hbl hW0 hn0 ho h hp0 p0 p1 p2; obtain ⟨i0, hi, hz0, hz1, hz2⟩ := info_parts info_open
  go_enter Try.func93, Try.ntmps93
  go_wp2_with fail
  rw [HW0.out]; clear HW0
  go_region_law ((refine step_append_own2 _ rfl _ _ 70 rfl base 122 i0 (.agg #[.slice none 0 0, .int .i64 0, .string ⟨#[]⟩, .slice none 0 0]) 4 72 Try.underlying70 hi hz0 hz1 hz2 rfl (by decide) _ _ _ rfl (HOA.out.drew.alloc _) ⟨W0.heap.size, 0, none⟩ 1 1 [.slice av nv cv, .int .i64 k, .string tx, .slice A m c] rfl rfl (open_at W0 _ _ _ _) (by simp [Value.oneCell']) (by simp only [maxLen]; omega) (by omega) (by simp; omega) ?_; intro v5 w5 hown5 hgrow5 hnew5; have HF5 := Aside0.mk (show Fr W w5 (fun i => some i = (Value.slice avs n cvs).ownBlock) from ((Fr.mk HBL.out.os HBL.out.tape HBL.out.output HBL.out.size (fun i hi _ => HBL.out.block i hi) : Fr W W0 _).trans (Fr.of_grown (row := none) (grown_da W0 (.cells #[.slice av nv cv, .int .i64 k, .string tx, .slice A m c] 122)) (fun i e => nomatch e))).trans (Fr.of_grown hgrow5 (fun i e => e.symm))); obtain ⟨b5, c5, hv5⟩ : ∃ b5 c5, v5 = .slice (some ⟨b5, 0, none⟩) (n + 1) c5 := (by rcases hown5.2 with ⟨_, h0⟩ | ⟨b, cap, cur, hv, _⟩; (· omega); (· exact ⟨_, _, hv⟩)); subst hv5; have HP5 : Pz w5 g s at_ fault (.slice av nv cv) (.slice avs n cvs) := Pz.grown (Pz.grown (show Pz W0.drew g s at_ fault (.slice av nv cv) (.slice avs n cvs) from HP0.out) (World.grownBy_alloc W0.drew (.cells #[.slice av nv cv, .int .i64 k, .string tx, .slice A m c] 122) none) (by simp)) hgrow5 (own_neG HOA.out (by decide) HP0.out); have hb5g : b5 ≠ g := (fun e => own_neG hown5 (by decide) HP5 (by rw [e]; rfl)); have p54 := HP5.cells.2.2.2.2; have p53 := HP5.cells.2.2.2.1; have pf53 := HP5.fz 3; have pf54 := HP5.fz 4; have HO5 := Aside0.mk hown5; have HG5 := Aside0.mk hgrow5; have HP5' := Aside0.mk HP5; have hgl5 : g < w5.heap.size := (Array.getElem?_eq_some_iff.1 HP5).1; have hgb : g ≠ b5 := hb5g.symm; have HNEW5 : Aside0 (some b5 = (Value.slice avs n cvs).ownBlock ∨ W.heap.size ≤ b5) := ⟨(hnew5 b5 rfl).imp Eq.symm (fun h => Nat.le_trans HBL.out.size (Nat.le_trans (by simp) h))⟩; clear hown5 hgrow5 HP5 hnew5 HG5))
  all_goals
    clear x0 x1 x2 pf3 pf4 p3 p4 p54 pf54
    go_wp2
    go_ret
    (with_reducible refine begin_fin ?_ HP5' HO5 HF5 HNEW5 hgb)
    rfl
end Go.Proofs.Ytdbjjaodkapikaa.TE
