/- The parser: end, where it closes a bracket. -/
import Derived.Test.YtdbjjaodkapikaaHTEPb
namespace Go.Proofs.Ytdbjjaodkapikaa.TE
open Go.RowKit Go.Shelf Go.Proofs.YtdbjjaodkapikaaW.PrintWords Go.Proofs.YtdbjjaodkapikaaW.PrintLast Go.Proofs.YtdbjjaodkapikaaW.PrintMore Go.Proofs.Ytdbjjaodkapikaa.Evs
set_option linter.unusedVariables false
set_option linter.unusedSimpArgs false
theorem own_drop {w : World} {base n b c : Nat} {e z : Nat} {xs ys : List Value} (h : w.ownsRow base e z (.slice (some ⟨b, 0, none⟩) (n + 1) c) (n + 1) (xs ++ ys)) (hx : xs.length = n * z) : w.ownsRow base e z (.slice (some ⟨b, 0, none⟩) n c) n xs := by
  refine ⟨hx, .inr ?_⟩
  rcases h.2 with ⟨h1, _⟩ | ⟨g, cap, cur, h1, h2, h3, h4, h5, h6, h7⟩
  · simp at h1
  · have hc : c = cap := by injection h1
    have hb : b = g := by injection h1 with e1 _ _; injection e1 with e1; injection e1
    subst hc; subst hb; refine ⟨b, c, cur, rfl, h2, h3, by omega, h5, h6, ?_⟩
    have : (cur.toList.take ((n + 1) * z)).take (n * z) = xs := by rw [h7, ← hx]; simp
    rw [List.take_take] at this
    rwa [Nat.min_eq_left (Nat.mul_le_mul_right _ (by omega))] at this
theorem top_facts {w : World} {base b n c : Nat} {xs : List Value} {v x y z : Value} (h : w.ownsRow base 122 4 (.slice (some ⟨b, 0, none⟩) (n + 1) c) (n + 1) (xs ++ [v, x, y, z])) (hx : xs.length = n * 4) :
    w.cell? ⟨b, n * 4, none⟩ = some v ∧ w.cell? ⟨b, n * 4 + 1, none⟩ = some x ∧ w.cell? ⟨b, n * 4 + 2, none⟩ = some y ∧ w.cell? ⟨b, n * 4 + 3, none⟩ = some z :=
  ⟨(h.cellAt _ (by omega)).trans (by rw [List.getElem?_append_right (by omega), hx, Nat.sub_self]; rfl), (h.cellAt _ (by omega)).trans (by rw [List.getElem?_append_right (by omega), hx, show n * 4 + 1 - n * 4 = 1 by omega]; rfl),
    (h.cellAt _ (by omega)).trans (by rw [List.getElem?_append_right (by omega), hx, show n * 4 + 2 - n * 4 = 2 by omega]; rfl), (h.cellAt _ (by omega)).trans (by rw [List.getElem?_append_right (by omega), hx, show n * 4 + 3 - n * 4 = 3 by omega]; rfl)⟩
theorem own_apart {w : World} {base base' n n' e e' z z' : Nat} {v v' : Value} {xs xs' : List Value} (h : w.ownsRow base e z v n xs) (h' : w.ownsRow base' e' z' v' n' xs') (he : e ≠ e') : ∀ b, v.ownBlock = some b → some b ≠ v'.ownBlock := by
  intro b hb hb'
  rcases h.2 with ⟨rfl, _⟩ | ⟨g, cap, cur, rfl, _, hk, _⟩
  · simp [Value.ownBlock] at hb
  rcases h'.2 with ⟨rfl, _⟩ | ⟨g', cap', cur', rfl, _, hk', _⟩
  · simp [Value.ownBlock] at hb'
  obtain rfl : g = b := by simpa [Value.ownBlock] using hb
  obtain rfl : g = g' := by simpa [Value.ownBlock] using hb'
  rw [hk] at hk'
  injection hk' with h1
  injection h1 with _ h2 _
  exact he h2
theorem term_at (w : World) (x y z : Value) : ∀ j u, ([x, y, z] : List Value)[j]? = some u → (w.drew.alloc (.cells #[x, y, z] 42)).cell? ((⟨w.heap.size, 0, none⟩ : Addr).add j) = some u := by
  intro j u hj; rw [add_plain]; refine (q10 (World.alloc_heap_new w.drew _) j).trans ?_
  match j, hj with
  | 0, hj => exact hj
  | 1, hj => exact hj
  | 2, hj => exact hj
theorem own_grown {w w' : World} {base n e z : Nat} {v : Value} {xs : List Value} {row : Option Nat} (h : w.ownsRow base e z v n xs) (hg : w.grownBy w' row) (hne : ∀ b, v.ownBlock = some b → some b ≠ row) : w'.ownsRow base e z v n xs := by
  obtain ⟨h1, h2⟩ := h; refine ⟨h1, ?_⟩
  rcases h2 with h2 | ⟨b, cap, cur, rfl, hbb, hh, r⟩
  · exact .inl h2
  · exact .inr ⟨b, cap, cur, rfl, hbb, (hg.block b (Array.getElem?_eq_some_iff.1 hh).1 (hne b rfl)).trans hh, r⟩
theorem end_fin {W w5 : World} {g base n bs cs b5 c5 na : Nat} {s : ByteArray} {at_ fault : Int} {va vl v6 : Value} {xs ys zs : List Value} (h6 : v6 = .bool true) (hp : Aside0 (Pz w5 g s at_ fault vl (.slice (some ⟨bs, 0, none⟩) (n + 1) cs))) (ho : Aside0 (w5.ownsRow base 42 3 (.slice (some ⟨b5, 0, none⟩) (na + 1) c5) (na + 1) xs))
    (hk : Aside0 (w5.ownsRow base 122 4 (.slice (some ⟨bs, 0, none⟩) (n + 1) cs) (n + 1) (ys ++ zs))) (hy : Aside0 (ys.length = n * 4))
    (hf : Aside0 (Fr W w5 (fun i => i = g ∨ some i = va.ownBlock))) (hn : Aside0 (some b5 = va.ownBlock ∨ W.heap.size ≤ b5)) (hgb : g ≠ b5) (hgs : g ≠ bs) :
    Ending.returned v6 = .returned (.bool true) ∧ ∃ vl', Pz ((w5.setCell ⟨g, 3, none⟩ (.slice (some ⟨b5, 0, none⟩) (na + 1) c5)).setCell ⟨g, 4, none⟩ (.slice (some ⟨bs, 0, none⟩) n cs)) g s at_ fault vl' (.slice (some ⟨bs, 0, none⟩) n cs) ∧
      ((w5.setCell ⟨g, 3, none⟩ (.slice (some ⟨b5, 0, none⟩) (na + 1) c5)).setCell ⟨g, 4, none⟩ (.slice (some ⟨bs, 0, none⟩) n cs)).ownsRow base 122 4 (.slice (some ⟨bs, 0, none⟩) n cs) n ys ∧
      ((w5.setCell ⟨g, 3, none⟩ (.slice (some ⟨b5, 0, none⟩) (na + 1) c5)).setCell ⟨g, 4, none⟩ (.slice (some ⟨bs, 0, none⟩) n cs)).ownsRow base 42 3 vl' (na + 1) xs ∧ (∀ b, vl'.ownBlock = some b → va.ownBlock = some b ∨ W.heap.size ≤ b) ∧
      Fr W ((w5.setCell ⟨g, 3, none⟩ (.slice (some ⟨b5, 0, none⟩) (na + 1) c5)).setCell ⟨g, 4, none⟩ (.slice (some ⟨bs, 0, none⟩) n cs)) (fun i => i = g ∨ some i = va.ownBlock) := by
  have hgo : some g ≠ (Value.slice (some ⟨b5, 0, none⟩) (na + 1) c5).ownBlock := by simp [Value.ownBlock]; exact hgb
  have hgk : some g ≠ (Value.slice (some ⟨bs, 0, none⟩) n cs).ownBlock := by simp [Value.ownBlock]; exact hgs
  refine ⟨by rw [h6], _, (hp.out.setList _).setStack _, own_farG (own_farG (own_drop hk.out hy.out) g 3 _ hgk) g 4 _ hgk, own_farG (own_farG ho.out g 3 _ hgo) g 4 _ hgo, new_own hn.out, ?_⟩; exact fr_step (T := fun i => i = g ∨ some i = va.ownBlock) (fr_step (T := fun i => i = g ∨ some i = va.ownBlock) hf.out (.inl (.inl rfl)) (grown_set _ g 3 _) (fun i e => e)) (.inl (.inl rfl)) (grown_set _ g 4 _) (fun i e => e)
set_option maxRecDepth 100000 in
set_option maxHeartbeats 4000000 in
theorem end1.calls (g base : Nat) (s : ByteArray) (at_ fault : Int) (av : Option Addr) (nv cv : Nat) (bs cs n : Nat) (ys : List Value) (va : Value) (na : Nat) (xsa : List Value) (k : Int) (tx : ByteArray) (A : Option Addr) (m c : Nat) (W : World)
    (h : Pz W g s at_ fault (.slice av nv cv) (.slice (some ⟨bs, 0, none⟩) (n + 1) cs)) (ho : W.ownsRow base 122 4 (.slice (some ⟨bs, 0, none⟩) (n + 1) cs) (n + 1) (ys ++ [va, .int .i64 k, .string tx, .slice A m c])) (hys : ys.length = n * 4)
    (ha : W.ownsRow base 42 3 va na xsa) (hb : base ≤ g) (hn8 : n ≤ 1099511627776) (hna : na ≤ 1099511627776) (hat : 0 ≤ at_ ∧ at_ ≤ 1099511627776) :
    Calls Try.prog 95 #[.pointer (some ⟨g, 0, none⟩), .int .i64 k] W fun e W' => e = .returned (.bool true) ∧ ∃ vl', Pz W' g s (at_ + 1) fault vl' (.slice (some ⟨bs, 0, none⟩) n cs) ∧ W'.ownsRow base 122 4 (.slice (some ⟨bs, 0, none⟩) n cs) n ys ∧
      W'.ownsRow base 42 3 vl' (na + 1) (xsa ++ [.int .i64 k, .string tx, .slice av nv cv]) ∧ (∀ b, vl'.ownBlock = some b → va.ownBlock = some b ∨ W.heap.size ≤ b) ∧ Fr W W' (fun i => i = g ∨ some i = va.ownBlock) := by
  obtain ⟨p0, p1, p2, p3, p4⟩ := h.cells; have pf1 := h.fz 1; obtain ⟨t0, t1, t2, t3⟩ := top_facts ho hys
  obtain ⟨aa, ca, hva⟩ : ∃ aa ca, va = .slice aa na ca := by
    rcases ha.2 with ⟨hv, h0⟩ | ⟨b, cap, cur, hv, _⟩
    · exact ⟨none, 0, by rw [hv, h0]⟩
    · exact ⟨_, _, hv⟩
  subst hva; have HP := Aside0.mk h; have HO := Aside0.mk ho; have HA := Aside0.mk ha; have hgl : g < W.heap.size := (Array.getElem?_eq_some_iff.1 h).1; have hbl : bs < W.heap.size := (ho.lt bs rfl).2
  have hgb : g ≠ bs := fun e => own_neG ho (by decide) h (by rw [e]; rfl)
  have hw1 : IntKind.i64.wrap (((n + 1 : Nat) : Int) - 1) = (n : Int) := by rw [i64_w]; rw [wrap64_id (by omega) (by omega)]; omega
  have hw2 : IntKind.i64.wrap ((n : Int) + 1 - 1) = (n : Int) := by rw [i64_w]; rw [wrap64_id (by omega) (by omega)]; omega
  have hw3 : IntKind.i64.wrap (n : Int) = (n : Int) := by rw [i64_w]; rw [wrap64_id (by omega) (by omega)]
  have hw4 : IntKind.i64.wrap (at_ + 1) = at_ + 1 := by rw [i64_w]; rw [wrap64_id (by omega) (by omega)]
  have hnn : (n : Int) < (n : Int) + 1 := by omega
  have hnn0 : (0 : Int) ≤ (n : Int) := Int.natCast_nonneg _; have e0 : decide ((n : Int) < 0) = false := decide_eq_false (by omega); have HNA := Aside0.mk hna; have HYS := Aside0.mk hys; clear h ho ha hn8 hna hat hys
  go_enter Try.func95, Try.ntmps95
  go_wp2_with fail
  have hp6 : Pz (W.setCell ⟨g, 1, none⟩ (.int .i64 (at_ + 1))) g s (at_ + 1) fault (.slice av nv cv) (.slice (some ⟨bs, 0, none⟩) (n + 1) cs) := HP.out.setAt _; have hg6 := grown_set W g 1 (.int .i64 (at_ + 1)); have hga : some g ≠ (Value.slice aa na ca).ownBlock := own_neG HA.out (by decide) HP.out; have ho6 := own_farG HO.out g 1 (.int .i64 (at_ + 1)) (own_neG HO.out (by decide) HP.out); have ha6 := own_farG HA.out g 1 (.int .i64 (at_ + 1)) hga
  have hs6 : (W.setCell ⟨g, 1, none⟩ (.int .i64 (at_ + 1))).heap.size = W.heap.size := by simp [World.setCell]
  obtain ⟨W5, hW5⟩ : ∃ W5, W.setCell ⟨g, 1, none⟩ (.int .i64 (at_ + 1)) = W5 := ⟨_, rfl⟩; rw [hW5] at hp6 hg6 ho6 ha6 hs6 ⊢; have hn6 := World.alloc_heap_new W5 (.cells #[.slice aa na ca, .int .i64 k, .string tx, .slice av nv cv] 122); have hb6 : Below W5.heap.size W5 (W5.alloc (.cells #[.slice aa na ca, .int .i64 k, .string tx, .slice av nv cv] 122)) := (Below.refl _ _).alloc (Nat.le_refl _) _; obtain ⟨W6, hW6⟩ : ∃ W6, W5.alloc (.cells #[.slice aa na ca, .int .i64 k, .string tx, .slice av nv cv] 122) = W6 := ⟨_, rfl⟩; rw [hW6] at hn6 hb6 ⊢; rw [hs6] at hn6; have hF6 : Fr W W6 (fun i => i = g ∨ some i = (Value.slice aa na ca).ownBlock) := (Fr.of_grown hg6 (fun i e => by cases e; exact .inl rfl)).trans (Fr.mk hb6.os hb6.tape hb6.output hb6.size (fun i hi _ => hb6.block i hi)); have HP6 : Aside0 (Pz W6 g s (at_ + 1) fault (.slice av nv cv) (.slice (some ⟨bs, 0, none⟩) (n + 1) cs)) := ⟨(hb6.block g (Array.getElem?_eq_some_iff.1 hp6).1).trans hp6⟩; have HO6 := Aside0.mk (own_below4 ho6 hb6); have HA6 := Aside0.mk (own_below4 ha6 hb6); have HF6 := Aside0.mk hF6; have y0 : W6.cell? ⟨W.heap.size, 0, none⟩ = some (.slice aa na ca) := (q10 hn6 0).trans rfl; have y1 : W6.cell? ⟨W.heap.size, 1, none⟩ = some (.int .i64 k) := (q10 hn6 1).trans rfl; have y2 : W6.cell? ⟨W.heap.size, 2, none⟩ = some (.string tx) := (q10 hn6 2).trans rfl; have y3 : W6.cell? ⟨W.heap.size, 3, none⟩ = some (.slice av nv cv) := (q10 hn6 3).trans rfl; have z4 := HP6.out.cells.2.2.2.2; have zf3 := HP6.out.fz 3; have zf4 := HP6.out.fz 4; have hgl6 : g < W6.heap.size := (Array.getElem?_eq_some_iff.1 HP6.out).1; have hwl6 : W.heap.size < W6.heap.size := (Array.getElem?_eq_some_iff.1 hn6).1; have hbs6 : base ≤ W6.heap.size := Nat.le_trans hb (Nat.le_of_lt hgl6); obtain ⟨i0, hi, hz0, hz1, hz2⟩ := info_parts info_term
  have hcs : n ≤ cs := by
    rcases HO.out.2 with ⟨h1, _⟩ | ⟨_, cap, _, h1, _, _, h4, _⟩
    · simp at h1
    · have : cs = cap := by injection h1
      omega
  have hcsi : (n : Int) ≤ (cs : Int) := by omega
  clear hp6 hg6 ho6 ha6 hs6 hW5 hn6 hb6 hW6 hF6 p0 p1 p2 p3 p4 t0 t1 t2 t3 pf1 hw1 hw2 hw4 e0
  go_region_law ((refine step_append_own2 _ rfl _ _ 22 rfl base 42 i0 (.agg #[.int .i64 0, .string ⟨#[]⟩, .slice none 0 0]) 3 48 Try.underlying22 hi hz0 hz1 hz2 rfl (by decide) _ _ _ rfl (HA6.out.drew.alloc _) ⟨W6.heap.size, 0, none⟩ 1 1 [.int .i64 k, .string tx, .slice av nv cv] rfl rfl (term_at W6 _ _ _) (by simp [Value.oneCell']) (by have := HNA.out; simp only [maxLen]; omega) (by have := HNA.out; omega) (by simp; omega) ?_; intro v5 w5 hown5 hgrow5 hnew5; have HF5 := Aside0.mk (show Fr W w5 (fun i => i = g ∨ some i = (Value.slice aa na ca).ownBlock) from (HF6.out.trans (Fr.of_grown (row := none) (grown_da W6 (.cells #[.int .i64 k, .string tx, .slice av nv cv] 42)) (fun i e => nomatch e))).trans (Fr.of_grown hgrow5 (fun i e => .inr e.symm))); obtain ⟨b5, c5, hv5⟩ : ∃ b5 c5, v5 = .slice (some ⟨b5, 0, none⟩) (na + 1) c5 := (by rcases hown5.2 with ⟨_, h0⟩ | ⟨b, cap, cur, hv, _⟩; (· omega); (· exact ⟨_, _, hv⟩)); subst hv5; have HP5 : Pz w5 g s (at_ + 1) fault (.slice av nv cv) (.slice (some ⟨bs, 0, none⟩) (n + 1) cs) := Pz.grown (Pz.grown (show Pz W6.drew g s (at_ + 1) fault (.slice av nv cv) (.slice (some ⟨bs, 0, none⟩) (n + 1) cs) from HP6.out) (World.grownBy_alloc W6.drew (.cells #[.int .i64 k, .string tx, .slice av nv cv] 42) none) (by simp)) hgrow5 (own_neG HA6.out (by decide) HP6.out); have hb5g : b5 ≠ g := (fun e => own_neG hown5 (by decide) HP5 (by rw [e]; rfl)); have p54 := HP5.cells.2.2.2.2; have p53 := HP5.cells.2.2.2.1; have pf53 := HP5.fz 3; have pf54 := HP5.fz 4; have HO5 := Aside0.mk hown5; have HSK5 : Aside0 (w5.ownsRow base 122 4 (.slice (some ⟨bs, 0, none⟩) (n + 1) cs) (n + 1) (ys ++ [.slice aa na ca, .int .i64 k, .string tx, .slice A m c])) := ⟨own_grown (own_grown (show W6.drew.ownsRow base 122 4 (.slice (some ⟨bs, 0, none⟩) (n + 1) cs) (n + 1) (ys ++ [.slice aa na ca, .int .i64 k, .string tx, .slice A m c]) from HO6.out) (World.grownBy_alloc W6.drew (.cells #[.int .i64 k, .string tx, .slice av nv cv] 42) none) (by simp)) hgrow5 (own_apart HO6.out HA6.out (by decide))⟩; have HP5' := Aside0.mk HP5; have hgl5 : g < w5.heap.size := (Array.getElem?_eq_some_iff.1 HP5).1; have hgb5 : g ≠ b5 := hb5g.symm; have HNEW5 : Aside0 (some b5 = (Value.slice aa na ca).ownBlock ∨ W.heap.size ≤ b5) := ⟨(hnew5 b5 rfl).imp Eq.symm (fun h => Nat.le_trans HF6.out.size (Nat.le_trans (by simp) h))⟩; clear hown5 hgrow5 hnew5 HP5))
  all_goals
    clear p53 p54 pf53 pf54 z4 zf3 zf4
    go_wp2
    go_ret
    (with_reducible refine end_fin ?_ HP5' HO5 HSK5 HYS HF5 HNEW5 hgb5 hgb)
    rfl
end Go.Proofs.Ytdbjjaodkapikaa.TE
