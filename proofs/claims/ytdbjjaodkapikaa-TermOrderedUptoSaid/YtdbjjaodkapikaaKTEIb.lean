/- Packed: item at variables and quotations. -/
import Derived.Test.YtdbjjaodkapikaaKTEPc
import Derived.Test.YtdbjjaodkapikaaKShelf
import Derived.Test.YtdbjjaodkapikaaKTEPb
import Derived.Laws.IdiomStrings
section
namespace Go.Proofs.Ytdbjjaodkapikaa.TE
open Go.RowKit Go.Shelf Go.Proofs.YtdbjjaodkapikaaW.PrintWords Go.Proofs.YtdbjjaodkapikaaW.PrintLast Go.Proofs.YtdbjjaodkapikaaW.PrintMore Go.Proofs.Ytdbjjaodkapikaa.Evs
set_option linter.unusedVariables false
set_option linter.unusedSimpArgs false
theorem quiet_of2 {P : Program} {f : FuncId} {args : Array Value} {w : World} {m n : Nat} {v : Value}
    (h : Calls P f args (w.drewN (m + n)) fun e w' => e = .returned v ∧ ∃ k, w' = (w.drewN (m + n)).drewN k) : Calls P f args (w.drewN (m + n)) fun e w'' => e = .returned v ∧ ∃ k, w'' = w.drewN (m + k) :=
  h.mono fun _ _ ⟨he, k, hm⟩ => ⟨he, n + k, by rw [hm, World.drewN_drewN, Nat.add_assoc]⟩
theorem is_at (c : Nat) (b : UInt8) (hb : b.toNat = c) (m : Int) (v : Bool) (hv : clsB m b = v) (w : World) : Calls Try.prog 87 #[.int .u8 (c : Int), .int .u8 m] w fun e w' => e = .returned (.bool v) ∧ ∃ n, w' = w.drewN n := by
  subst hb; subst hv; exact is_calls b m w
theorem index_at (c : Int) (v : Int) (hv : Lib.indexByte [115, 116, 101] c.toNat.toUInt8 = v) (w : World) : Calls Try.prog 91 #[.string ⟨#[115, 116, 101]⟩, .int .u8 c] w fun e w' => e = .returned (.int .i64 v) ∧ ∃ n, w' = w.drewN n := by
  subst hv; refine (Try.strings_IndexByte ⟨#[115, 116, 101]⟩ c w).mono ?_; rintro e w' ⟨rfl, rfl⟩; exact ⟨rfl, 0, rfl⟩
set_option maxRecDepth 100000 in
set_option maxHeartbeats 4000000 in
theorem item_open.calls (g base : Nat) (s : ByteArray) (a : Nat) (fault : Int) (av : Option Addr) (nv cv : Nat) (vs : Value) (n : Nat) (ys : List Value) (W : World) (h : Pz W g s a fault (.slice av nv cv) vs) (ho : W.ownsRow base 122 4 vs n ys) (hb : base ≤ g) (hn8 : n ≤ 1099511627776)
    (hs : s.size ≤ 1099511627776) (ha : a < s.size) (hc : (s[a]'ha).toNat = 40) :
    Calls Try.prog 61 #[.pointer (some ⟨g, 0, none⟩)] W fun e W' => e = .returned (.bool true) ∧ ∃ vs', Pz W' g s ((a + 1 : Nat) : Int) fault (.slice none 0 0) vs' ∧ W'.ownsRow base 122 4 vs' (n + 1) (ys ++ [.slice av nv cv, .int .i64 4, .string ⟨#[]⟩, .slice none 0 0]) ∧ (∀ b, vs'.ownBlock = some b → vs.ownBlock = some b ∨ W.heap.size ≤ b) ∧ Fr W W' (fun i => i = g ∨ some i = vs.ownBlock) := by
  have hga : some g ≠ vs.ownBlock := own_neG ho (by decide) h; have hbl : Below W.heap.size W (W.alloc (.cells #[.pointer (some ⟨g, 0, none⟩)] 69)) := (Below.refl _ _).alloc (Nat.le_refl _) _; have hn0 := World.alloc_heap_new W (.cells #[.pointer (some ⟨g, 0, none⟩)] 69); obtain ⟨W0, hW0⟩ : ∃ W0, W.alloc (.cells #[.pointer (some ⟨g, 0, none⟩)] 69) = W0 := ⟨_, rfl⟩; have HW0 := Aside0.mk hW0; rw [hW0] at hbl hn0; have x0 : W0.cell? ⟨W.heap.size, 0, none⟩ = some (.pointer (some ⟨g, 0, none⟩)) := (q9 hn0 0).trans rfl; have hp0 : Pz W0 g s a fault (.slice av nv cv) vs := h.newer hbl; obtain ⟨p0, p1, p2, p3, p4⟩ := hp0.cells; have pf1 := hp0.fz 1; have hgl : g < W.heap.size := (Array.getElem?_eq_some_iff.1 h).1; have ha0 : (0 : Int) ≤ (a : Int) := Int.natCast_nonneg _
  have ha1 : (a : Int) < (s.size : Int) := by omega
  have hbt : ((s[a]'ha).toNat : Int) = 40 := by omega
  have hw4 : IntKind.i64.wrap ((a : Int) + 1) = (a : Int) + 1 := by rw [i64_w]; rw [wrap64_id (by omega) (by omega)]
  have hidx := index_at 40 (-1) (by decide); have his1 := is_at 40 40 rfl 1 false (by decide); have his2 := is_at 40 40 rfl 2 false (by decide); have HIDX := Aside0.mk hidx; have HIS1 := Aside0.mk his1; have HIS2 := Aside0.mk his2; have HP0 := Aside0.mk hp0; have HBL := Aside0.mk hbl; have HN0 := Aside0.mk hn0; have HO := Aside0.mk ho; have HN8 := Aside0.mk hn8; clear h ho hn8 hp0 hbl hW0 hn0 hidx his1 his2 hs hc
  go_enter Try.func61, Try.ntmps61
  go_wp2_with fail
  rw [HW0.out]
  go_quiet (fail)
  go_wp2_with fail
  go_quiet (first | (go_at_call 91; exact quiet_of2 (HIDX.out _)))
  go_wp2_with (first
    | (go_at_call 87; refine (HIS1.out _).mono ?_; rintro e w' ⟨rfl, nd, rfl⟩)
    | (go_at_call 87; refine (HIS2.out _).mono ?_; rintro e w' ⟨rfl, nd, rfl⟩)
    | fail)
  refine (begin.calls g base s ((a : Int) + 1) fault av nv cv vs n ys 4 ⟨#[]⟩ none 0 0 _ (HP0.out.drewN.setAt _) (own_farG (own_drewN (own_below4 HO.out HBL.out)) g 1 _ hga) hb HN8.out).mono ?_; rintro e w5 ⟨rfl, vs', hp, ho, hn, hf⟩; have HP6 := Aside0.mk hp; have HO6 := Aside0.mk ho; have HN6 := Aside0.mk (show ∀ b, vs'.ownBlock = some b → vs.ownBlock = some b ∨ W.heap.size ≤ b from fun b hb => (hn b hb).imp id (Nat.le_trans (Nat.le_trans HBL.out.size (by simp [World.setCell])))); have HF6 := Aside0.mk (((fr_grown (fr_drewN (fr_below (Fr.refl W _) HBL.out)) (grown_set _ g 1 _)).mono (fun i _ e => .inl e)).trans hf : Fr W w5 (fun i => i = g ∨ some i = vs.ownBlock)); clear hp ho hn hf
  go_wp2_with fail
  go_ret; exact ⟨rfl, vs', by have := HP6.out; simpa using this, HO6.out, HN6.out, HF6.out⟩
end Go.Proofs.Ytdbjjaodkapikaa.TE
end
section
namespace Go.Proofs.Ytdbjjaodkapikaa.TE
open Go.RowKit Go.Shelf Go.Proofs.YtdbjjaodkapikaaW.PrintWords Go.Proofs.YtdbjjaodkapikaaW.PrintLast Go.Proofs.YtdbjjaodkapikaaW.PrintMore Go.Proofs.Ytdbjjaodkapikaa.Evs
set_option linter.unusedVariables false
set_option linter.unusedSimpArgs false
theorem own_drop {w : World} {base n b c : Nat} {e z : Nat} {xs ys : List Value} (h : w.ownsRow base e z (.slice (some ⟨b, 0, none⟩) (n + 1) c) (n + 1) (xs ++ ys)) (hx : xs.length = n * z) : w.ownsRow base e z (.slice (some ⟨b, 0, none⟩) n c) n xs := by
  refine ⟨hx, .inr ?_⟩
  rcases h.2 with ⟨h1, _⟩ | ⟨g, cap, cur, h1, h2, h3, h4, h5, h6, h7⟩
  · simp at h1
  · have hc : c = cap := by injection h1
    have hb : b = g := by injection h1 with e1 _ _; injection e1 with e1; injection e1
    subst hc; subst hb; refine ⟨b, c, cur, rfl, h2, h3, by omega, h5, h6, ?_⟩
    have : (cur.toList.take ((n + 1) * z)).take (n * z) = xs := by rw [h7, ← hx]; simp
    rw [List.take_take] at this
    rwa [Nat.min_eq_left (Nat.mul_le_mul_right _ (by omega))] at this
theorem top_facts {w : World} {base b n c : Nat} {xs : List Value} {v x y z : Value} (h : w.ownsRow base 122 4 (.slice (some ⟨b, 0, none⟩) (n + 1) c) (n + 1) (xs ++ [v, x, y, z])) (hx : xs.length = n * 4) :
    w.cell? ⟨b, n * 4, none⟩ = some v ∧ w.cell? ⟨b, n * 4 + 1, none⟩ = some x ∧ w.cell? ⟨b, n * 4 + 2, none⟩ = some y ∧ w.cell? ⟨b, n * 4 + 3, none⟩ = some z :=
  ⟨(h.cellAt _ (by omega)).trans (by rw [List.getElem?_append_right (by omega), hx, Nat.sub_self]; rfl), (h.cellAt _ (by omega)).trans (by rw [List.getElem?_append_right (by omega), hx, show n * 4 + 1 - n * 4 = 1 by omega]; rfl),
    (h.cellAt _ (by omega)).trans (by rw [List.getElem?_append_right (by omega), hx, show n * 4 + 2 - n * 4 = 2 by omega]; rfl), (h.cellAt _ (by omega)).trans (by rw [List.getElem?_append_right (by omega), hx, show n * 4 + 3 - n * 4 = 3 by omega]; rfl)⟩
theorem own_apart {w : World} {base base' n n' e e' z z' : Nat} {v v' : Value} {xs xs' : List Value} (h : w.ownsRow base e z v n xs) (h' : w.ownsRow base' e' z' v' n' xs') (he : e ≠ e') : ∀ b, v.ownBlock = some b → some b ≠ v'.ownBlock := by
  intro b hb hb'
  rcases h.2 with ⟨rfl, _⟩ | ⟨g, cap, cur, rfl, _, hk, _⟩
  · simp [Value.ownBlock] at hb
  rcases h'.2 with ⟨rfl, _⟩ | ⟨g', cap', cur', rfl, _, hk', _⟩
  · simp [Value.ownBlock] at hb'
  obtain rfl : g = b := by simpa [Value.ownBlock] using hb
  obtain rfl : g = g' := by simpa [Value.ownBlock] using hb'
  rw [hk] at hk'
  injection hk' with h1
  injection h1 with _ h2 _
  exact he h2
theorem term_at (w : World) (x y z : Value) : ∀ j u, ([x, y, z] : List Value)[j]? = some u → (w.drew.alloc (.cells #[x, y, z] 42)).cell? ((⟨w.heap.size, 0, none⟩ : Addr).add j) = some u := by
  intro j u hj; rw [add_plain]; refine (q9 (World.alloc_heap_new w.drew _) j).trans ?_
  match j, hj with
  | 0, hj => exact hj
  | 1, hj => exact hj
  | 2, hj => exact hj
theorem own_grown {w w' : World} {base n e z : Nat} {v : Value} {xs : List Value} {row : Option Nat} (h : w.ownsRow base e z v n xs) (hg : w.grownBy w' row) (hne : ∀ b, v.ownBlock = some b → some b ≠ row) : w'.ownsRow base e z v n xs := by
  obtain ⟨h1, h2⟩ := h; refine ⟨h1, ?_⟩
  rcases h2 with h2 | ⟨b, cap, cur, rfl, hbb, hh, r⟩
  · exact .inl h2
  · exact .inr ⟨b, cap, cur, rfl, hbb, (hg.block b (Array.getElem?_eq_some_iff.1 hh).1 (hne b rfl)).trans hh, r⟩
theorem end_fin {W w5 : World} {g base n bs cs b5 c5 na : Nat} {s : ByteArray} {at_ fault : Int} {va vl v6 : Value} {xs ys zs : List Value} (h6 : v6 = .bool true) (hp : Aside0 (Pz w5 g s at_ fault vl (.slice (some ⟨bs, 0, none⟩) (n + 1) cs))) (ho : Aside0 (w5.ownsRow base 42 3 (.slice (some ⟨b5, 0, none⟩) (na + 1) c5) (na + 1) xs))
    (hk : Aside0 (w5.ownsRow base 122 4 (.slice (some ⟨bs, 0, none⟩) (n + 1) cs) (n + 1) (ys ++ zs))) (hy : Aside0 (ys.length = n * 4))
    (hf : Aside0 (Fr W w5 (fun i => i = g ∨ some i = va.ownBlock))) (hn : Aside0 (some b5 = va.ownBlock ∨ W.heap.size ≤ b5)) (hgb : g ≠ b5) (hgs : g ≠ bs) :
    Ending.returned v6 = .returned (.bool true) ∧ ∃ vl', Pz ((w5.setCell ⟨g, 3, none⟩ (.slice (some ⟨b5, 0, none⟩) (na + 1) c5)).setCell ⟨g, 4, none⟩ (.slice (some ⟨bs, 0, none⟩) n cs)) g s at_ fault vl' (.slice (some ⟨bs, 0, none⟩) n cs) ∧
      ((w5.setCell ⟨g, 3, none⟩ (.slice (some ⟨b5, 0, none⟩) (na + 1) c5)).setCell ⟨g, 4, none⟩ (.slice (some ⟨bs, 0, none⟩) n cs)).ownsRow base 122 4 (.slice (some ⟨bs, 0, none⟩) n cs) n ys ∧
      ((w5.setCell ⟨g, 3, none⟩ (.slice (some ⟨b5, 0, none⟩) (na + 1) c5)).setCell ⟨g, 4, none⟩ (.slice (some ⟨bs, 0, none⟩) n cs)).ownsRow base 42 3 vl' (na + 1) xs ∧ (∀ b, vl'.ownBlock = some b → va.ownBlock = some b ∨ W.heap.size ≤ b) ∧
      Fr W ((w5.setCell ⟨g, 3, none⟩ (.slice (some ⟨b5, 0, none⟩) (na + 1) c5)).setCell ⟨g, 4, none⟩ (.slice (some ⟨bs, 0, none⟩) n cs)) (fun i => i = g ∨ some i = va.ownBlock) := by
  have hgo : some g ≠ (Value.slice (some ⟨b5, 0, none⟩) (na + 1) c5).ownBlock := by simp [Value.ownBlock]; exact hgb
  have hgk : some g ≠ (Value.slice (some ⟨bs, 0, none⟩) n cs).ownBlock := by simp [Value.ownBlock]; exact hgs
  refine ⟨by rw [h6], _, (hp.out.setList _).setStack _, own_farG (own_farG (own_drop hk.out hy.out) g 3 _ hgk) g 4 _ hgk, own_farG (own_farG ho.out g 3 _ hgo) g 4 _ hgo, new_own hn.out, ?_⟩; exact fr_step (T := fun i => i = g ∨ some i = va.ownBlock) (fr_step (T := fun i => i = g ∨ some i = va.ownBlock) hf.out (.inl (.inl rfl)) (grown_set _ g 3 _) (fun i e => e)) (.inl (.inl rfl)) (grown_set _ g 4 _) (fun i e => e)
set_option maxRecDepth 100000 in
set_option maxHeartbeats 4000000 in
theorem end1.calls (g base : Nat) (s : ByteArray) (at_ fault : Int) (av : Option Addr) (nv cv : Nat) (bs cs n : Nat) (ys : List Value) (va : Value) (na : Nat) (xsa : List Value) (k : Int) (tx : ByteArray) (A : Option Addr) (m c : Nat) (W : World)
    (h : Pz W g s at_ fault (.slice av nv cv) (.slice (some ⟨bs, 0, none⟩) (n + 1) cs)) (ho : W.ownsRow base 122 4 (.slice (some ⟨bs, 0, none⟩) (n + 1) cs) (n + 1) (ys ++ [va, .int .i64 k, .string tx, .slice A m c])) (hys : ys.length = n * 4)
    (ha : W.ownsRow base 42 3 va na xsa) (hb : base ≤ g) (hn8 : n ≤ 1099511627776) (hna : na ≤ 1099511627776) (hat : 0 ≤ at_ ∧ at_ ≤ 1099511627776) :
    Calls Try.prog 95 #[.pointer (some ⟨g, 0, none⟩), .int .i64 k] W fun e W' => e = .returned (.bool true) ∧ ∃ vl', Pz W' g s (at_ + 1) fault vl' (.slice (some ⟨bs, 0, none⟩) n cs) ∧ W'.ownsRow base 122 4 (.slice (some ⟨bs, 0, none⟩) n cs) n ys ∧
      W'.ownsRow base 42 3 vl' (na + 1) (xsa ++ [.int .i64 k, .string tx, .slice av nv cv]) ∧ (∀ b, vl'.ownBlock = some b → va.ownBlock = some b ∨ W.heap.size ≤ b) ∧ Fr W W' (fun i => i = g ∨ some i = va.ownBlock) := by
  obtain ⟨p0, p1, p2, p3, p4⟩ := h.cells; have pf1 := h.fz 1; obtain ⟨t0, t1, t2, t3⟩ := top_facts ho hys
  obtain ⟨aa, ca, hva⟩ : ∃ aa ca, va = .slice aa na ca := by
    rcases ha.2 with ⟨hv, h0⟩ | ⟨b, cap, cur, hv, _⟩
    · exact ⟨none, 0, by rw [hv, h0]⟩
    · exact ⟨_, _, hv⟩
  subst hva; have HP := Aside0.mk h; have HO := Aside0.mk ho; have HA := Aside0.mk ha; have hgl : g < W.heap.size := (Array.getElem?_eq_some_iff.1 h).1; have hbl : bs < W.heap.size := (ho.lt bs rfl).2
  have hgb : g ≠ bs := fun e => own_neG ho (by decide) h (by rw [e]; rfl)
  have hw1 : IntKind.i64.wrap (((n + 1 : Nat) : Int) - 1) = (n : Int) := by rw [i64_w]; rw [wrap64_id (by omega) (by omega)]; omega
  have hw2 : IntKind.i64.wrap ((n : Int) + 1 - 1) = (n : Int) := by rw [i64_w]; rw [wrap64_id (by omega) (by omega)]; omega
  have hw3 : IntKind.i64.wrap (n : Int) = (n : Int) := by rw [i64_w]; rw [wrap64_id (by omega) (by omega)]
  have hw4 : IntKind.i64.wrap (at_ + 1) = at_ + 1 := by rw [i64_w]; rw [wrap64_id (by omega) (by omega)]
  have hnn : (n : Int) < (n : Int) + 1 := by omega
  have hnn0 : (0 : Int) ≤ (n : Int) := Int.natCast_nonneg _; have e0 : decide ((n : Int) < 0) = false := decide_eq_false (by omega); have HNA := Aside0.mk hna; have HYS := Aside0.mk hys; clear h ho ha hn8 hna hat hys
  go_enter Try.func95, Try.ntmps95
  go_wp2_with fail
  have hp6 : Pz (W.setCell ⟨g, 1, none⟩ (.int .i64 (at_ + 1))) g s (at_ + 1) fault (.slice av nv cv) (.slice (some ⟨bs, 0, none⟩) (n + 1) cs) := HP.out.setAt _; have hg6 := grown_set W g 1 (.int .i64 (at_ + 1)); have hga : some g ≠ (Value.slice aa na ca).ownBlock := own_neG HA.out (by decide) HP.out; have ho6 := own_farG HO.out g 1 (.int .i64 (at_ + 1)) (own_neG HO.out (by decide) HP.out); have ha6 := own_farG HA.out g 1 (.int .i64 (at_ + 1)) hga
  have hs6 : (W.setCell ⟨g, 1, none⟩ (.int .i64 (at_ + 1))).heap.size = W.heap.size := by simp [World.setCell]
  obtain ⟨W5, hW5⟩ : ∃ W5, W.setCell ⟨g, 1, none⟩ (.int .i64 (at_ + 1)) = W5 := ⟨_, rfl⟩; rw [hW5] at hp6 hg6 ho6 ha6 hs6 ⊢; have hn6 := World.alloc_heap_new W5 (.cells #[.slice aa na ca, .int .i64 k, .string tx, .slice av nv cv] 122); have hb6 : Below W5.heap.size W5 (W5.alloc (.cells #[.slice aa na ca, .int .i64 k, .string tx, .slice av nv cv] 122)) := (Below.refl _ _).alloc (Nat.le_refl _) _; obtain ⟨W6, hW6⟩ : ∃ W6, W5.alloc (.cells #[.slice aa na ca, .int .i64 k, .string tx, .slice av nv cv] 122) = W6 := ⟨_, rfl⟩; rw [hW6] at hn6 hb6 ⊢; rw [hs6] at hn6; have hF6 : Fr W W6 (fun i => i = g ∨ some i = (Value.slice aa na ca).ownBlock) := (Fr.of_grown hg6 (fun i e => by cases e; exact .inl rfl)).trans (Fr.mk hb6.os hb6.tape hb6.output hb6.size (fun i hi _ => hb6.block i hi)); have HP6 : Aside0 (Pz W6 g s (at_ + 1) fault (.slice av nv cv) (.slice (some ⟨bs, 0, none⟩) (n + 1) cs)) := ⟨(hb6.block g (Array.getElem?_eq_some_iff.1 hp6).1).trans hp6⟩; have HO6 := Aside0.mk (own_below4 ho6 hb6); have HA6 := Aside0.mk (own_below4 ha6 hb6); have HF6 := Aside0.mk hF6; have y0 : W6.cell? ⟨W.heap.size, 0, none⟩ = some (.slice aa na ca) := (q9 hn6 0).trans rfl; have y1 : W6.cell? ⟨W.heap.size, 1, none⟩ = some (.int .i64 k) := (q9 hn6 1).trans rfl; have y2 : W6.cell? ⟨W.heap.size, 2, none⟩ = some (.string tx) := (q9 hn6 2).trans rfl; have y3 : W6.cell? ⟨W.heap.size, 3, none⟩ = some (.slice av nv cv) := (q9 hn6 3).trans rfl; have z4 := HP6.out.cells.2.2.2.2; have zf3 := HP6.out.fz 3; have zf4 := HP6.out.fz 4; have hgl6 : g < W6.heap.size := (Array.getElem?_eq_some_iff.1 HP6.out).1; have hwl6 : W.heap.size < W6.heap.size := (Array.getElem?_eq_some_iff.1 hn6).1; have hbs6 : base ≤ W6.heap.size := Nat.le_trans hb (Nat.le_of_lt hgl6); obtain ⟨i0, hi, hz0, hz1, hz2⟩ := info_parts info_term
  have hcs : n ≤ cs := by
    rcases HO.out.2 with ⟨h1, _⟩ | ⟨_, cap, _, h1, _, _, h4, _⟩
    · simp at h1
    · have : cs = cap := by injection h1
      omega
  have hcsi : (n : Int) ≤ (cs : Int) := by omega
  clear hp6 hg6 ho6 ha6 hs6 hW5 hn6 hb6 hW6 hF6 p0 p1 p2 p3 p4 t0 t1 t2 t3 pf1 hw1 hw2 hw4 e0
  go_region_law ((refine step_append_own2 _ rfl _ _ 22 rfl base 42 i0 (.agg #[.int .i64 0, .string ⟨#[]⟩, .slice none 0 0]) 3 48 Try.underlying22 hi hz0 hz1 hz2 rfl (by decide) _ _ _ rfl (HA6.out.drew.alloc _) ⟨W6.heap.size, 0, none⟩ 1 1 [.int .i64 k, .string tx, .slice av nv cv] rfl rfl (term_at W6 _ _ _) (by simp [Value.oneCell']) (by have := HNA.out; simp only [maxLen]; omega) (by have := HNA.out; omega) (by simp; omega) ?_; intro v5 w5 hown5 hgrow5 hnew5; have HF5 := Aside0.mk (show Fr W w5 (fun i => i = g ∨ some i = (Value.slice aa na ca).ownBlock) from (HF6.out.trans (Fr.of_grown (row := none) (grown_da W6 (.cells #[.int .i64 k, .string tx, .slice av nv cv] 42)) (fun i e => nomatch e))).trans (Fr.of_grown hgrow5 (fun i e => .inr e.symm))); obtain ⟨b5, c5, hv5⟩ : ∃ b5 c5, v5 = .slice (some ⟨b5, 0, none⟩) (na + 1) c5 := (by rcases hown5.2 with ⟨_, h0⟩ | ⟨b, cap, cur, hv, _⟩; (· omega); (· exact ⟨_, _, hv⟩)); subst hv5; have HP5 : Pz w5 g s (at_ + 1) fault (.slice av nv cv) (.slice (some ⟨bs, 0, none⟩) (n + 1) cs) := Pz.grown (Pz.grown (show Pz W6.drew g s (at_ + 1) fault (.slice av nv cv) (.slice (some ⟨bs, 0, none⟩) (n + 1) cs) from HP6.out) (World.grownBy_alloc W6.drew (.cells #[.int .i64 k, .string tx, .slice av nv cv] 42) none) (by simp)) hgrow5 (own_neG HA6.out (by decide) HP6.out); have hb5g : b5 ≠ g := (fun e => own_neG hown5 (by decide) HP5 (by rw [e]; rfl)); have p54 := HP5.cells.2.2.2.2; have p53 := HP5.cells.2.2.2.1; have pf53 := HP5.fz 3; have pf54 := HP5.fz 4; have HO5 := Aside0.mk hown5; have HSK5 : Aside0 (w5.ownsRow base 122 4 (.slice (some ⟨bs, 0, none⟩) (n + 1) cs) (n + 1) (ys ++ [.slice aa na ca, .int .i64 k, .string tx, .slice A m c])) := ⟨own_grown (own_grown (show W6.drew.ownsRow base 122 4 (.slice (some ⟨bs, 0, none⟩) (n + 1) cs) (n + 1) (ys ++ [.slice aa na ca, .int .i64 k, .string tx, .slice A m c]) from HO6.out) (World.grownBy_alloc W6.drew (.cells #[.int .i64 k, .string tx, .slice av nv cv] 42) none) (by simp)) hgrow5 (own_apart HO6.out HA6.out (by decide))⟩; have HP5' := Aside0.mk HP5; have hgl5 : g < w5.heap.size := (Array.getElem?_eq_some_iff.1 HP5).1; have hgb5 : g ≠ b5 := hb5g.symm; have HNEW5 : Aside0 (some b5 = (Value.slice aa na ca).ownBlock ∨ W.heap.size ≤ b5) := ⟨(hnew5 b5 rfl).imp Eq.symm (fun h => Nat.le_trans HF6.out.size (Nat.le_trans (by simp) h))⟩; clear hown5 hgrow5 hnew5 HP5))
  all_goals
    clear p53 p54 pf53 pf54 z4 zf3 zf4
    go_wp2
    go_ret
    (with_reducible refine end_fin ?_ HP5' HO5 HSK5 HYS HF5 HNEW5 hgb5 hgb)
    rfl
end Go.Proofs.Ytdbjjaodkapikaa.TE
end
section
namespace Go.Proofs.Ytdbjjaodkapikaa.TE
open Go.RowKit Go.Shelf Go.Proofs.YtdbjjaodkapikaaW.PrintWords Go.Proofs.YtdbjjaodkapikaaW.PrintLast Go.Proofs.YtdbjjaodkapikaaW.PrintMore Go.Proofs.Ytdbjjaodkapikaa.Evs
set_option linter.unusedVariables false
set_option linter.unusedSimpArgs false
set_option maxRecDepth 100000 in
set_option maxHeartbeats 4000000 in
theorem item_call.calls (g base : Nat) (s : ByteArray) (a a1 a2 : Nat) (kk : Nat) (tx : ByteArray) (fault : Int) (av : Option Addr) (nv cv : Nat) (vs : Value) (n : Nat) (ys : List Value) (W : World) (h : Pz W g s a fault (.slice av nv cv) vs) (ho : W.ownsRow base 122 4 vs n ys) (hb : base ≤ g) (hn8 : n ≤ 1099511627776)
    (hs : s.size ≤ 1099511627776) (ha : a < s.size) (hc : (s[a]'ha).toNat = 60) (h1 : a1 = endF 8 s (a + 1)) (hl : a1 < s.size) (hcl : clsB 1 (s[a1]'hl) = true) (h2 : a2 = endF 4 s a1) (htx : tx = s.extract a1 a2) (hr : term_right.f kk 8 tx [] = some true) (hon : onB s a2 = false) :
    Calls Try.prog 61 #[.pointer (some ⟨g, 0, none⟩)] W fun e W' => e = .returned (.bool true) ∧ ∃ vs', Pz W' g s a2 fault (.slice none 0 0) vs' ∧ W'.ownsRow base 122 4 vs' (n + 1) (ys ++ [.slice av nv cv, .int .i64 8, .string tx, .slice none 0 0]) ∧ (∀ b, vs'.ownBlock = some b → vs.ownBlock = some b ∨ W.heap.size ≤ b) ∧ Fr W W' (fun i => i = g ∨ some i = vs.ownBlock) := by
  have hga : some g ≠ vs.ownBlock := own_neG ho (by decide) h; have hbl : Below W.heap.size W (W.alloc (.cells #[.pointer (some ⟨g, 0, none⟩)] 69)) := (Below.refl _ _).alloc (Nat.le_refl _) _; have hn0 := World.alloc_heap_new W (.cells #[.pointer (some ⟨g, 0, none⟩)] 69); obtain ⟨W0, hW0⟩ : ∃ W0, W.alloc (.cells #[.pointer (some ⟨g, 0, none⟩)] 69) = W0 := ⟨_, rfl⟩; have HW0 := Aside0.mk hW0; rw [hW0] at hbl hn0; have x0 : W0.cell? ⟨W.heap.size, 0, none⟩ = some (.pointer (some ⟨g, 0, none⟩)) := (q9 hn0 0).trans rfl; have hp0 : Pz W0 g s a fault (.slice av nv cv) vs := h.newer hbl; obtain ⟨p0, p1, p2, p3, p4⟩ := hp0.cells; have pf1 := hp0.fz 1; have hgl : g < W.heap.size := (Array.getElem?_eq_some_iff.1 h).1; have ha0 : (0 : Int) ≤ (a : Int) := Int.natCast_nonneg _
  have ha1 : (a : Int) < (s.size : Int) := by omega
  have hbt : ((s[a]'ha).toNat : Int) = 60 := by omega
  have hw4 : IntKind.i64.wrap ((a : Int) + 1) = (a : Int) + 1 := by rw [i64_w]; rw [wrap64_id (by omega) (by omega)]
  have hidx := index_at 60 (-1) (by decide); have his1 := is_at 60 60 rfl 1 false (by decide); have his2 := is_at 60 60 rfl 2 false (by decide); have HIDX := Aside0.mk hidx; have HIS1 := Aside0.mk his1; have HIS2 := Aside0.mk his2; have HP0 := Aside0.mk hp0; have HBL := Aside0.mk hbl; have HN0 := Aside0.mk hn0; have HO := Aside0.mk ho; have HN8 := Aside0.mk hn8; have HS := Aside0.mk hs; have H1 := Aside0.mk h1; have H2 := Aside0.mk h2; have HTX := Aside0.mk htx; have HCL := Aside0.mk hcl; have HR := Aside0.mk hr; have HON := Aside0.mk hon; have HA := Aside0.mk ha; clear h ho hn8 hp0 hbl hW0 hn0 hidx his1 his2 hs hc h1 h2 htx hcl hr hon
  go_enter Try.func61, Try.ntmps61
  go_wp2_with fail
  rw [HW0.out]
  go_quiet (fail)
  go_wp2_with fail
  go_quiet (first | (go_at_call 91; exact quiet_of2 (HIDX.out _)))
  go_wp2_with (first
    | (go_at_call 87; refine (HIS1.out _).mono ?_; rintro e w' ⟨rfl, nd, rfl⟩)
    | (go_at_call 87; refine (HIS2.out _).mono ?_; rintro e w' ⟨rfl, nd, rfl⟩)
    | fail)
  refine (call1.calls g base s a a1 a2 fault av nv cv vs n ys kk tx _ HP0.out.drewN (own_drewN (own_below4 HO.out HBL.out)) hb HN8.out HS.out HA.out H1.out hl HCL.out H2.out HTX.out HR.out HON.out).mono ?_; rintro e w5 ⟨rfl, vs', hp, ho, hn, hf⟩; have HP6 := Aside0.mk hp; have HO6 := Aside0.mk ho; have HN6 := Aside0.mk (show ∀ b, vs'.ownBlock = some b → vs.ownBlock = some b ∨ W.heap.size ≤ b from fun b hb => (hn b hb).imp id (Nat.le_trans HBL.out.size)); have HF6 := Aside0.mk (((fr_drewN (fr_below (Fr.refl W _) HBL.out))).trans hf : Fr W w5 (fun i => i = g ∨ some i = vs.ownBlock)); clear hp ho hn hf
  go_wp2_with fail
  go_ret; exact ⟨rfl, vs', HP6.out, HO6.out, HN6.out, HF6.out⟩
end Go.Proofs.Ytdbjjaodkapikaa.TE
namespace Go.Proofs.Ytdbjjaodkapikaa.TE
open Go.RowKit Go.Shelf Go.Proofs.YtdbjjaodkapikaaW.PrintWords Go.Proofs.YtdbjjaodkapikaaW.PrintLast Go.Proofs.YtdbjjaodkapikaaW.PrintMore Go.Proofs.Ytdbjjaodkapikaa.Evs
set_option linter.unusedVariables false
set_option linter.unusedSimpArgs false
set_option maxRecDepth 100000 in
set_option maxHeartbeats 4000000 in
theorem item_shut.calls (g base : Nat) (s : ByteArray) (a : Nat) (fault : Int) (av : Option Addr) (nv cv : Nat) (bs cs n : Nat) (ys : List Value) (va : Value) (na : Nat) (xsa : List Value) (tx : ByteArray) (A : Option Addr) (m c : Nat) (W : World)
    (h : Pz W g s a fault (.slice av nv cv) (.slice (some ⟨bs, 0, none⟩) (n + 1) cs)) (ho : W.ownsRow base 122 4 (.slice (some ⟨bs, 0, none⟩) (n + 1) cs) (n + 1) (ys ++ [va, .int .i64 4, .string tx, .slice A m c])) (hys : ys.length = n * 4)
    (hav : W.ownsRow base 42 3 va na xsa) (hb : base ≤ g) (hn8 : n ≤ 1099511627776) (hna : na ≤ 1099511627776)
    (hs : s.size ≤ 1099511627776) (ha : a < s.size) (hc : (s[a]'ha).toNat = 41) :
    Calls Try.prog 61 #[.pointer (some ⟨g, 0, none⟩)] W fun e W' => e = .returned (.bool true) ∧ ∃ vl', Pz W' g s ((a + 1 : Nat) : Int) fault vl' (.slice (some ⟨bs, 0, none⟩) n cs) ∧ W'.ownsRow base 122 4 (.slice (some ⟨bs, 0, none⟩) n cs) n ys ∧
      W'.ownsRow base 42 3 vl' (na + 1) (xsa ++ [.int .i64 4, .string tx, .slice av nv cv]) ∧ (∀ b, vl'.ownBlock = some b → va.ownBlock = some b ∨ W.heap.size ≤ b) ∧ Fr W W' (fun i => i = g ∨ some i = va.ownBlock) := by
  have hbl : Below W.heap.size W (W.alloc (.cells #[.pointer (some ⟨g, 0, none⟩)] 69)) := (Below.refl _ _).alloc (Nat.le_refl _) _; have hn0 := World.alloc_heap_new W (.cells #[.pointer (some ⟨g, 0, none⟩)] 69); obtain ⟨W0, hW0⟩ : ∃ W0, W.alloc (.cells #[.pointer (some ⟨g, 0, none⟩)] 69) = W0 := ⟨_, rfl⟩; have HW0 := Aside0.mk hW0; rw [hW0] at hbl hn0; have x0 : W0.cell? ⟨W.heap.size, 0, none⟩ = some (.pointer (some ⟨g, 0, none⟩)) := (q9 hn0 0).trans rfl; have hp0 : Pz W0 g s a fault (.slice av nv cv) (.slice (some ⟨bs, 0, none⟩) (n + 1) cs) := h.newer hbl; obtain ⟨p0, p1, p2, p3, p4⟩ := hp0.cells; have pf1 := hp0.fz 1; have hgl : g < W.heap.size := (Array.getElem?_eq_some_iff.1 h).1; have ha0 : (0 : Int) ≤ (a : Int) := Int.natCast_nonneg _
  have ha1 : (a : Int) < (s.size : Int) := by omega
  have hbt : ((s[a]'ha).toNat : Int) = 41 := by omega
  have hw4 : IntKind.i64.wrap ((a : Int) + 1) = (a : Int) + 1 := by rw [i64_w]; rw [wrap64_id (by omega) (by omega)]
  have hidx := index_at 41 (-1) (by decide); have his1 := is_at 41 41 rfl 1 false (by decide); have his2 := is_at 41 41 rfl 2 false (by decide); have HIDX := Aside0.mk hidx; have HIS1 := Aside0.mk his1; have HIS2 := Aside0.mk his2; have HP0 := Aside0.mk hp0; have HBL := Aside0.mk hbl; have HN0 := Aside0.mk hn0; have HO := Aside0.mk ho; have HN8 := Aside0.mk hn8; have HS := Aside0.mk hs; have HA := Aside0.mk ha; have HAV := Aside0.mk hav; have HNA := Aside0.mk hna; have HYS := Aside0.mk hys; clear h ho hn8 hp0 hbl hW0 hn0 hidx his1 his2 hs hc hav hna hys
  go_enter Try.func61, Try.ntmps61
  go_wp2_with fail
  rw [HW0.out]
  go_quiet (fail)
  go_wp2_with fail
  go_quiet (first | (go_at_call 91; exact quiet_of2 (HIDX.out _)))
  go_wp2_with (first
    | (go_at_call 87; refine (HIS1.out _).mono ?_; rintro e w' ⟨rfl, nd, rfl⟩)
    | (go_at_call 87; refine (HIS2.out _).mono ?_; rintro e w' ⟨rfl, nd, rfl⟩)
    | fail)
  refine (end1.calls g base s (a : Int) fault av nv cv bs cs n ys va na xsa 4 tx A m c _ HP0.out.drewN (own_drewN (own_below4 HO.out HBL.out)) HYS.out (own_drewN (own_below4 HAV.out HBL.out)) hb HN8.out HNA.out (by have := HS.out; have := HA.out; omega)).mono ?_; rintro e w5 ⟨rfl, vl', hp, ho, hl, hn, hf⟩; have HP6 := Aside0.mk hp; have HO6 := Aside0.mk ho; have HL6 := Aside0.mk hl; have HN6 := Aside0.mk (show ∀ b, vl'.ownBlock = some b → va.ownBlock = some b ∨ W.heap.size ≤ b from fun b hb => (hn b hb).imp id (Nat.le_trans HBL.out.size)); have HF6 := Aside0.mk (((fr_drewN (fr_below (Fr.refl W _) HBL.out))).trans hf : Fr W w5 (fun i => i = g ∨ some i = va.ownBlock)); clear hp ho hn hf hl
  go_wp2_with fail
  go_ret; exact ⟨rfl, vl', by have := HP6.out; simpa using this, HO6.out, HL6.out, HN6.out, HF6.out⟩
end Go.Proofs.Ytdbjjaodkapikaa.TE
namespace Go.Proofs.Ytdbjjaodkapikaa.TE
open Go.RowKit Go.Shelf Go.Proofs.YtdbjjaodkapikaaW.PrintWords Go.Proofs.YtdbjjaodkapikaaW.PrintLast Go.Proofs.YtdbjjaodkapikaaW.PrintMore Go.Proofs.Ytdbjjaodkapikaa.Evs
set_option linter.unusedVariables false
set_option linter.unusedSimpArgs false
set_option maxRecDepth 100000 in
set_option maxHeartbeats 4000000 in
theorem item_done.calls (g base : Nat) (s : ByteArray) (a : Nat) (fault : Int) (av : Option Addr) (nv cv : Nat) (bs cs n : Nat) (ys : List Value) (va : Value) (na : Nat) (xsa : List Value) (tx : ByteArray) (A : Option Addr) (m c : Nat) (W : World)
    (h : Pz W g s a fault (.slice av nv cv) (.slice (some ⟨bs, 0, none⟩) (n + 1) cs)) (ho : W.ownsRow base 122 4 (.slice (some ⟨bs, 0, none⟩) (n + 1) cs) (n + 1) (ys ++ [va, .int .i64 8, .string tx, .slice A m c])) (hys : ys.length = n * 4)
    (hav : W.ownsRow base 42 3 va na xsa) (hb : base ≤ g) (hn8 : n ≤ 1099511627776) (hna : na ≤ 1099511627776)
    (hs : s.size ≤ 1099511627776) (ha : a < s.size) (hc : (s[a]'ha).toNat = 62) :
    Calls Try.prog 61 #[.pointer (some ⟨g, 0, none⟩)] W fun e W' => e = .returned (.bool true) ∧ ∃ vl', Pz W' g s ((a + 1 : Nat) : Int) fault vl' (.slice (some ⟨bs, 0, none⟩) n cs) ∧ W'.ownsRow base 122 4 (.slice (some ⟨bs, 0, none⟩) n cs) n ys ∧
      W'.ownsRow base 42 3 vl' (na + 1) (xsa ++ [.int .i64 8, .string tx, .slice av nv cv]) ∧ (∀ b, vl'.ownBlock = some b → va.ownBlock = some b ∨ W.heap.size ≤ b) ∧ Fr W W' (fun i => i = g ∨ some i = va.ownBlock) := by
  have hbl : Below W.heap.size W (W.alloc (.cells #[.pointer (some ⟨g, 0, none⟩)] 69)) := (Below.refl _ _).alloc (Nat.le_refl _) _; have hn0 := World.alloc_heap_new W (.cells #[.pointer (some ⟨g, 0, none⟩)] 69); obtain ⟨W0, hW0⟩ : ∃ W0, W.alloc (.cells #[.pointer (some ⟨g, 0, none⟩)] 69) = W0 := ⟨_, rfl⟩; have HW0 := Aside0.mk hW0; rw [hW0] at hbl hn0; have x0 : W0.cell? ⟨W.heap.size, 0, none⟩ = some (.pointer (some ⟨g, 0, none⟩)) := (q9 hn0 0).trans rfl; have hp0 : Pz W0 g s a fault (.slice av nv cv) (.slice (some ⟨bs, 0, none⟩) (n + 1) cs) := h.newer hbl; obtain ⟨p0, p1, p2, p3, p4⟩ := hp0.cells; have pf1 := hp0.fz 1; have hgl : g < W.heap.size := (Array.getElem?_eq_some_iff.1 h).1; have ha0 : (0 : Int) ≤ (a : Int) := Int.natCast_nonneg _
  have ha1 : (a : Int) < (s.size : Int) := by omega
  have hbt : ((s[a]'ha).toNat : Int) = 62 := by omega
  have hw4 : IntKind.i64.wrap ((a : Int) + 1) = (a : Int) + 1 := by rw [i64_w]; rw [wrap64_id (by omega) (by omega)]
  have hidx := index_at 62 (-1) (by decide); have his1 := is_at 62 62 rfl 1 false (by decide); have his2 := is_at 62 62 rfl 2 false (by decide); have HIDX := Aside0.mk hidx; have HIS1 := Aside0.mk his1; have HIS2 := Aside0.mk his2; have HP0 := Aside0.mk hp0; have HBL := Aside0.mk hbl; have HN0 := Aside0.mk hn0; have HO := Aside0.mk ho; have HN8 := Aside0.mk hn8; have HS := Aside0.mk hs; have HA := Aside0.mk ha; have HAV := Aside0.mk hav; have HNA := Aside0.mk hna; have HYS := Aside0.mk hys; clear h ho hn8 hp0 hbl hW0 hn0 hidx his1 his2 hs hc hav hna hys
  go_enter Try.func61, Try.ntmps61
  go_wp2_with fail
  rw [HW0.out]
  go_quiet (fail)
  go_wp2_with fail
  go_quiet (first | (go_at_call 91; exact quiet_of2 (HIDX.out _)))
  go_wp2_with (first
    | (go_at_call 87; refine (HIS1.out _).mono ?_; rintro e w' ⟨rfl, nd, rfl⟩)
    | (go_at_call 87; refine (HIS2.out _).mono ?_; rintro e w' ⟨rfl, nd, rfl⟩)
    | fail)
  refine (end1.calls g base s (a : Int) fault av nv cv bs cs n ys va na xsa 8 tx A m c _ HP0.out.drewN (own_drewN (own_below4 HO.out HBL.out)) HYS.out (own_drewN (own_below4 HAV.out HBL.out)) hb HN8.out HNA.out (by have := HS.out; have := HA.out; omega)).mono ?_; rintro e w5 ⟨rfl, vl', hp, ho, hl, hn, hf⟩; have HP6 := Aside0.mk hp; have HO6 := Aside0.mk ho; have HL6 := Aside0.mk hl; have HN6 := Aside0.mk (show ∀ b, vl'.ownBlock = some b → va.ownBlock = some b ∨ W.heap.size ≤ b from fun b hb => (hn b hb).imp id (Nat.le_trans HBL.out.size)); have HF6 := Aside0.mk (((fr_drewN (fr_below (Fr.refl W _) HBL.out))).trans hf : Fr W w5 (fun i => i = g ∨ some i = va.ownBlock)); clear hp ho hn hf hl
  go_wp2_with fail
  go_ret; exact ⟨rfl, vl', by have := HP6.out; simpa using this, HO6.out, HL6.out, HN6.out, HF6.out⟩
end Go.Proofs.Ytdbjjaodkapikaa.TE
end
section
namespace Go.Proofs.Ytdbjjaodkapikaa.TE
open Go.RowKit Go.Shelf Go.Proofs.YtdbjjaodkapikaaW.PrintWords Go.Proofs.YtdbjjaodkapikaaW.PrintLast Go.Proofs.YtdbjjaodkapikaaW.PrintMore Go.Proofs.Ytdbjjaodkapikaa.Evs
set_option linter.unusedVariables false
set_option linter.unusedSimpArgs false
set_option maxRecDepth 100000 in
set_option maxHeartbeats 4000000 in
theorem item_var.calls (g base : Nat) (s : ByteArray) (a a2 : Nat) (i kk : Nat) (tx : ByteArray) (fault : Int) (vl vs : Value) (n : Nat) (xs : List Value) (b : UInt8) (W : World) (h : Pz W g s a fault vl vs) (ho : W.ownsRow base 42 3 vl n xs) (hb : base ≤ g) (hn8 : n ≤ 1099511627776)
    (hxs : xs.length = n * 3) (hs : s.size ≤ 1099511627776) (ha : a + 1 < s.size) (hc : s[a]'(by omega) = b) (hdot : (s[a + 1]'ha).toNat = 46) (h39 : b.toNat ≠ 39) (h34 : b.toNat ≠ 34) (hidx : Lib.indexByte [115, 116, 101] b = (i : Int)) (hi3 : i < 3)
    (h2 : a2 = endF 3 s (a + 2)) (htx : tx = s.extract (a + 2) a2) (hr : term_right.f kk (5 + i) tx [] = some true) (hon : onB s a2 = false) :
    Calls Try.prog 61 #[.pointer (some ⟨g, 0, none⟩)] W fun e W' => e = .returned (.bool true) ∧ ∃ vl', Pz W' g s a2 fault vl' vs ∧ W'.ownsRow base 42 3 vl' (n + 1) (xs ++ [.int .i64 (5 + i), .string tx, .slice none 0 0]) ∧ (∀ b, vl'.ownBlock = some b → vl.ownBlock = some b ∨ W.heap.size ≤ b) ∧ Fr W W' (fun i => i = g ∨ some i = vl.ownBlock) := by
  have hga : some g ≠ vl.ownBlock := own_neG ho (by decide) h; have hbl : Below W.heap.size W (W.alloc (.cells #[.pointer (some ⟨g, 0, none⟩)] 69)) := (Below.refl _ _).alloc (Nat.le_refl _) _; have hn0 := World.alloc_heap_new W (.cells #[.pointer (some ⟨g, 0, none⟩)] 69); obtain ⟨W0, hW0⟩ : ∃ W0, W.alloc (.cells #[.pointer (some ⟨g, 0, none⟩)] 69) = W0 := ⟨_, rfl⟩; have HW0 := Aside0.mk hW0; rw [hW0] at hbl hn0; have x0 : W0.cell? ⟨W.heap.size, 0, none⟩ = some (.pointer (some ⟨g, 0, none⟩)) := (q9 hn0 0).trans rfl; have hp0 : Pz W0 g s a fault vl vs := h.newer hbl; obtain ⟨p0, p1, p2, p3, p4⟩ := hp0.cells; have pf1 := hp0.fz 1; have hgl : g < W.heap.size := (Array.getElem?_eq_some_iff.1 h).1; have ha0 : (0 : Int) ≤ (a : Int) := Int.natCast_nonneg _
  have ha00 : (0 : Int) ≤ (a : Int) + 1 := by omega
  have ha1 : (a : Int) < (s.size : Int) := by omega
  have ha2 : (a : Int) + 1 < (s.size : Int) := by omega
  have hbt : ((s[a]'(by omega)).toNat : Int) = (b.toNat : Int) := by rw [hc]
  have hbt2 : ((s[a + 1]'ha).toNat : Int) = 46 := by omega
  have hw4 : IntKind.i64.wrap ((a : Int) + 1) = (a : Int) + 1 := by rw [i64_w]; rw [wrap64_id (by omega) (by omega)]
  have hw5 : IntKind.i64.wrap ((a : Int) + 2) = (a : Int) + 2 := by rw [i64_w]; rw [wrap64_id (by omega) (by omega)]
  have hw6 : IntKind.i64.wrap (5 + (i : Int)) = 5 + (i : Int) := by rw [i64_w]; rw [wrap64_id (by omega) (by omega)]
  have e1 : decide ((a : Int) + 1 < (s.size : Int)) = true := decide_eq_true ha2
  have e39 : ((b.toNat : Int) == 39) = false := by simp; omega
  have e34 : ((b.toNat : Int) == 34) = false := by simp; omega
  have hidx' := index_at (b.toNat : Int) i (by simpa using hidx); have hi0 : (0 : Int) ≤ (i : Int) := Int.natCast_nonneg _; have HIDX := Aside0.mk hidx'; have HP0 := Aside0.mk hp0; have HBL := Aside0.mk hbl; have HN0 := Aside0.mk hn0; have HO := Aside0.mk ho; have HN8 := Aside0.mk hn8; have HXS := Aside0.mk hxs; have HS := Aside0.mk hs; have H2 := Aside0.mk h2; have HTX := Aside0.mk htx; have HR := Aside0.mk hr; have HON := Aside0.mk hon; clear h ho hn8 hp0 hbl hW0 hn0 hidx hidx' hs hc hxs h2 htx hr hon h39 h34 hdot hi3
  go_enter Try.func61, Try.ntmps61
  go_wp2_with fail
  rw [HW0.out]
  go_quiet (fail)
  generalize nq = nq1
  go_wp2_with fail
  go_quiet (first | (go_at_call 91; exact quiet_of2 (HIDX.out _)))
  go_wp2_with fail
  have hp1 : Pz ((W0.drewN (nq1 + nq)).setCell ⟨g, 1, none⟩ (.int .i64 ((a : Int) + 2))) g s ((a + 2 : Nat) : Int) fault vl vs := by have := HP0.out.drewN (n := nq1 + nq) |>.setAt ((a : Int) + 2); simpa using this
  have hf1 : Fr W ((W0.drewN (nq1 + nq)).setCell ⟨g, 1, none⟩ (.int .i64 ((a : Int) + 2))) (fun i => i = g) := fr_grown (fr_drewN (fr_below (Fr.refl W _) HBL.out)) (grown_set _ g 1 _); have hx1 : ((W0.drewN (nq1 + nq)).setCell ⟨g, 1, none⟩ (.int .i64 ((a : Int) + 2))).heap[W.heap.size]? = some (.cells #[.pointer (some ⟨g, 0, none⟩)] 69 (0, 0)) := (Below.heap_setCell _ ⟨g, 1, none⟩ _ _ (by simp; omega)).trans HN0.out; obtain ⟨W1, hW1⟩ : ∃ W1, (W0.drewN (nq1 + nq)).setCell ⟨g, 1, none⟩ (.int .i64 ((a : Int) + 2)) = W1 := ⟨_, rfl⟩; rw [hW1] at hp1 hf1 hx1 ⊢; have HP1 := Aside0.mk hp1; have HF1 := Aside0.mk hf1; have HX1 := Aside0.mk hx1; have z0 : W1.cell? ⟨W.heap.size, 0, none⟩ = some (.pointer (some ⟨g, 0, none⟩)) := (q9 hx1 0).trans rfl; have hsz1 : W.heap.size < W1.heap.size := (Array.getElem?_eq_some_iff.1 hx1).1; clear hW1 hp1 hf1 hx1 x0 p0 p1 p2 p3 p4 pf1 hw4 hw5 e1 e39 e34
  go_region_held3 (fun W' => Fr W1 W' (fun i => i = g ∨ some i = vl.ownBlock) ∧ W'.cell? ⟨W.heap.size, 0, none⟩ = some (.pointer (some ⟨g, 0, none⟩)))
    (first
      | exact ⟨fr_drew (Fr.refl _ _), z0⟩
      | exact ⟨fr_drewN (Fr.refl _ _), z0⟩
      | exact ⟨HF4.out, HZ4.out⟩
      | exact ⟨HF3.out, HZ3.out⟩
      | exact ⟨HF2.out, HZ2.out⟩
      | (go_split_ands; exact ⟨by assumption, by assumption⟩)
      | fail)
    (first
      | (go_at_call 91; refine (HIDX.out _).mono ?_; rintro e w' ⟨rfl, nd, rfl⟩)
      | (go_at_call 60; refine (longest.calls g s (a + 2) 3 fault vl vs _ HP1.out.drewN HS.out (by omega)).mono ?_; rintro e w2 ⟨rfl, hp, hg⟩; rw [← H2.out] at hp; have HP2 := Aside0.mk hp; have HG2 := Aside0.mk hg; have HF2 := Aside0.mk (show Fr W1 w2 (fun i => i = g ∨ some i = vl.ownBlock) from ⟨hg.os, hg.tape, hg.output, hg.size, fun k hk hn => hg.block k hk (fun e => hn (.inl (by cases e; rfl)))⟩); have HX2 := Aside0.mk ((hg.block _ hsz1 (fun e => by injection e with e; omega)).trans HX1.out); have HZ2 := Aside0.mk (show w2.cell? ⟨W.heap.size, 0, none⟩ = some (.pointer (some ⟨g, 0, none⟩)) from (q9 HX2.out 0).trans rfl); have HW2 := Aside0.mk (show Fr W w2 (fun i => i = g) from fr_grown (fr_drewN HF1.out) hg); clear hp hg; rw [← H2.out, ← HTX.out])
      | (go_at_call 90; refine (add1.calls g base s a2 fault a vl vs n xs (5 + (i : Int)) tx none 0 [] kk w2 HP2.out (own_fr HO.out HW2.out (fun b hb e => hga (by rw [hb, e]))) hb HN8.out HXS.out (Kd.C_nil k42 w2) (Nat.le_refl _) HR.out).mono ?_; rintro e w3 ⟨rfl, vl', hp, ho, hn, hf⟩; have HP3 := Aside0.mk hp; have HO3 := Aside0.mk ho; have HN3 := Aside0.mk hn; have HF3 := Aside0.mk (HF2.out.trans hf); have HX3 := Aside0.mk ((hf.block _ (Array.getElem?_eq_some_iff.1 HX2.out).1 (fun e => by rcases e with e | e; (· omega); (· have := (HO.out.lt _ e.symm).2; omega))).trans HX2.out); have HZ3 := Aside0.mk (show w3.cell? ⟨W.heap.size, 0, none⟩ = some (.pointer (some ⟨g, 0, none⟩)) from (q9 HX3.out 0).trans rfl); have HW3 := Aside0.mk ((HW2.out.mono (fun i _ e => .inl e)).trans hf); clear hp ho hn hf)
      | (go_at_call 92; have hap := apart.calls g s a2 fault vl' vs w3 HP3.out HS.out; rw [HON.out] at hap; refine hap.mono ?_; clear hap; rintro e w4 ⟨rfl, hp, hg⟩; have HP4 := Aside0.mk (show Pz w4 g s a2 fault vl' vs from hp); have HF4 := Aside0.mk (show Fr W1 w4 (fun i => i = g ∨ some i = vl.ownBlock) from HF3.out.trans (Fr.of_grown hg (fun i e => .inl (by cases e; rfl)))); have HZ4 := Aside0.mk (show w4.cell? ⟨W.heap.size, 0, none⟩ = some (.pointer (some ⟨g, 0, none⟩)) from (q9 ((hg.block _ (Array.getElem?_eq_some_iff.1 HX3.out).1 (fun e => by injection e with e; omega)).trans HX3.out) 0).trans rfl); have HO4 := Aside0.mk (own_grown HO3.out hg (fun b hb e => by injection e with e; exact own_neG HO3.out (by decide) HP3.out (by rw [← e]; exact hb.symm))); have HW4 := Aside0.mk (HW3.out.trans (Fr.of_grown hg (fun i e => .inl (by cases e; rfl)))); clear hp hg)
      | fail)
  go_wp2
  go_ret; exact ⟨rfl, vl', HP4.out, HO4.out, fun b hb => (HN3.out b hb).imp id (Nat.le_trans HW2.out.size), HW4.out⟩
end Go.Proofs.Ytdbjjaodkapikaa.TE
namespace Go.Proofs.Ytdbjjaodkapikaa.TE
open Go.RowKit Go.Shelf Go.Proofs.YtdbjjaodkapikaaW.PrintWords Go.Proofs.YtdbjjaodkapikaaW.PrintLast Go.Proofs.YtdbjjaodkapikaaW.PrintMore Go.Proofs.Ytdbjjaodkapikaa.Evs
set_option linter.unusedVariables false
set_option linter.unusedSimpArgs false
inductive Flat : List Tm → List Value → Prop
  | nil : Flat [] []
  | cons (k : Int) (t : ByteArray) (A : Option Addr) (c : Nat) (r : List Tm) (cs : List Value) : Flat r cs → Flat (⟨k, t, []⟩ :: r) (.int .i64 k :: .string t :: .slice A 0 c :: cs)
theorem Flat.len {r : List Tm} {cs : List Value} (h : Flat r cs) : cs.length = r.length * 3 := by
  induction h with
  | nil => rfl
  | cons k t A c r cs h ih => simp [ih]; omega
theorem Flat.one {r : List Tm} {cs : List Value} (h : Flat r cs) : ∀ u ∈ cs, u.oneCell' = true := by
  induction h with
  | nil => simp
  | cons k t A c r cs h ih =>
    intro u hu; simp only [List.mem_cons] at hu
    rcases hu with rfl | rfl | rfl | hu
    · rfl
    · rfl
    · rfl
    · exact ih u hu
theorem flat_of_reps {W : World} {base : Nat} {ok : Nat → Prop} : ∀ (r : List Tm) (cs : List Value), (∀ x ∈ r, x.f2 = []) → Reps (k42.M W base ok) 3 r cs → Flat r cs
  | [], cs, _, h => by
    have : cs = [] := List.length_eq_zero_iff.1 (by rw [h.1]; simp); subst this; exact .nil
  | x :: r, cs, hk, h => by
    have h0 := h.2 0 x rfl; obtain ⟨v2, he, hR⟩ := k42_openM h0; have hl := h.1; obtain ⟨k, t, f2⟩ := x; have hf : f2 = [] := hk _ List.mem_cons_self; subst hf; simp only [Nat.zero_mul, List.drop_zero] at he
    have hcs : cs = [.int .i64 k, .string t, v2] ++ cs.drop 3 := by rw [← he, List.take_append_drop]
    have hv : ∃ A c, v2 = .slice A 0 c := by
      obtain ⟨A, c, hv, _⟩ := Kd.R_reads hR; exact ⟨A, c, hv⟩
    obtain ⟨A, c, rfl⟩ := hv; rw [hcs]; show Flat _ (.int .i64 k :: .string t :: .slice A 0 c :: cs.drop 3); refine .cons k t A c r _ (flat_of_reps (W := W) (base := base) (ok := ok) r (cs.drop 3) (fun y hy => hk y (List.mem_cons_of_mem _ hy)) ⟨by rw [List.length_drop, hl]; simp; omega, fun j p hp => ?_⟩); have := h.2 (j + 1) p (by simpa using hp); rw [List.drop_drop]
    rwa [show 3 + j * 3 = (j + 1) * 3 by omega]
theorem quote_fin {W w5 : World} {g base m b5 c5 : Nat} {s : ByteArray} {at_ fault : Int} {vl vs v6 : Value} {xs cs : List Value} {r : List Tm} (h6 : v6 = .bool true) (hp : Aside0 (Pz w5 g s at_ fault vl vs)) (ho : Aside0 (w5.ownsRow base 42 3 (.slice (some ⟨b5, 0, none⟩) m c5) m (xs ++ cs)))
    (hn : Aside0 (∀ b, (Value.slice (some ⟨b5, 0, none⟩) m c5).ownBlock = some b → vl.ownBlock = some b ∨ W.heap.size ≤ b)) (hf : Aside0 (Fr W w5 (fun i => i = g ∨ some i = vl.ownBlock))) (hfl : Aside0 (Flat r cs)) :
    Ending.returned v6 = .returned (.bool true) ∧ ∃ vl' cs, Pz (w5.setCell ⟨g, 3, none⟩ (.slice (some ⟨b5, 0, none⟩) m c5)) g s at_ fault vl' vs ∧ (w5.setCell ⟨g, 3, none⟩ (.slice (some ⟨b5, 0, none⟩) m c5)).ownsRow base 42 3 vl' m (xs ++ cs) ∧ Flat r cs ∧ (∀ b, vl'.ownBlock = some b → vl.ownBlock = some b ∨ W.heap.size ≤ b) ∧
      Fr W (w5.setCell ⟨g, 3, none⟩ (.slice (some ⟨b5, 0, none⟩) m c5)) (fun i => i = g ∨ some i = vl.ownBlock) :=
  ⟨by rw [h6], _, cs, hp.out.setList _, own_farG ho.out g 3 _ (own_neG ho.out (by decide) hp.out), hfl.out, hn.out, hf.out.trans (Fr.of_grown (grown_set _ g 3 _) (fun i e => .inl (by cases e; rfl)))⟩
set_option maxRecDepth 100000 in
set_option maxHeartbeats 4000000 in
theorem item_quote.calls (g base : Nat) (s : ByteArray) (a e : Nat) (kk : Nat) (r : List Tm) (fault : Int) (vl vs : Value) (n : Nat) (xs : List Value) (W : World) (h : Pz W g s a fault vl vs) (ho : W.ownsRow base 42 3 vl n xs) (hb : base ≤ g) (hn8 : n ≤ 1099511627776)
    (hxs : xs.length = n * 3) (hs : s.size ≤ 1099511627776) (ha : a < s.size) (hc : (s[a]'ha).toNat = 39) (hq : Plainly s a e) (hne : a + 1 < e) (hch : term_Chars.f kk ⟨(between s (a + 1) (e - (a + 1))).toArray⟩ = some r) (hr0 : 0 < r.length) (hr8 : r.length ≤ 100000) (hk : ∀ x ∈ r, x.f2 = []) :
    Calls Try.prog 61 #[.pointer (some ⟨g, 0, none⟩)] W fun x W' => x = .returned (.bool true) ∧ ∃ vl' cs, Pz W' g s ((e + 1 : Nat) : Int) fault vl' vs ∧ W'.ownsRow base 42 3 vl' (n + r.length) (xs ++ cs) ∧ Flat r cs ∧ (∀ b, vl'.ownBlock = some b → vl.ownBlock = some b ∨ W.heap.size ≤ b) ∧ Fr W W' (fun i => i = g ∨ some i = vl.ownBlock) := by
  have hga : some g ≠ vl.ownBlock := own_neG ho (by decide) h; have hbl : Below W.heap.size W (W.alloc (.cells #[.pointer (some ⟨g, 0, none⟩)] 69)) := (Below.refl _ _).alloc (Nat.le_refl _) _; have hn0 := World.alloc_heap_new W (.cells #[.pointer (some ⟨g, 0, none⟩)] 69); obtain ⟨W0, hW0⟩ : ∃ W0, W.alloc (.cells #[.pointer (some ⟨g, 0, none⟩)] 69) = W0 := ⟨_, rfl⟩; have HW0 := Aside0.mk hW0; rw [hW0] at hbl hn0; have x0 : W0.cell? ⟨W.heap.size, 0, none⟩ = some (.pointer (some ⟨g, 0, none⟩)) := (q9 hn0 0).trans rfl; have hp0 : Pz W0 g s a fault vl vs := h.newer hbl; obtain ⟨p0, p1, p2, p3, p4⟩ := hp0.cells; have hgl : g < W.heap.size := (Array.getElem?_eq_some_iff.1 h).1; have ha0 : (0 : Int) ≤ (a : Int) := Int.natCast_nonneg _
  have ha1 : (a : Int) < (s.size : Int) := by omega
  have hbt : ((s[a]'ha).toNat : Int) = 39 := by omega
  have HP0 := Aside0.mk hp0; have HBL := Aside0.mk hbl; have HN0 := Aside0.mk hn0; have HO := Aside0.mk ho; have HN8 := Aside0.mk hn8; have HXS := Aside0.mk hxs; have HS := Aside0.mk hs; have HQ := Aside0.mk hq; have HCH := Aside0.mk hch; have HR0 := Aside0.mk hr0; have HR8 := Aside0.mk hr8; have HK := Aside0.mk hk; have HNE := Aside0.mk hne; clear h ho hn8 hp0 hbl hW0 hn0 hs hc hxs hq hch hr0 hr8 hk hne
  go_enter Try.func61, Try.ntmps61
  go_wp2_with fail
  rw [HW0.out]
  go_quiet (fail)
  generalize nq = nq1
  go_wp2_with fail
  refine (quotation1.calls g s a e fault vl vs _ HP0.out.drewN HS.out HQ.out).mono ?_; rintro e' w1 ⟨vo, rfl, hp, hvo, hf⟩; have HP1 := Aside0.mk hp; have HVO := Aside0.mk hvo; have HF1 := Aside0.mk hf; clear hp hvo hf p0 p1 p2 p3 p4; have hx1 := (HF1.out.block _ (Array.getElem?_eq_some_iff.1 HN0.out).1 (fun e => by omega)).trans HN0.out; have z0 : w1.cell? ⟨W.heap.size, 0, none⟩ = some (.pointer (some ⟨g, 0, none⟩)) := (q9 hx1 0).trans rfl; have p3 := HP1.out.cells.2.2.2.1; have HX1 := Aside0.mk hx1; have hsz1 : W.heap.size < w1.heap.size := (Array.getElem?_eq_some_iff.1 hx1).1
  obtain ⟨bo, co, hvoe⟩ : ∃ bo co, vo = .slice (some ⟨bo, 0, none⟩) (e - (a + 1)) co := by
    rcases HVO.out.2 with ⟨_, h0⟩ | ⟨b, cap, cur, hv, _⟩
    · have := HNE.out; omega
    · exact ⟨_, _, hv⟩
  subst hvoe; have hcv := run_convert_bytes_back (P := Try.prog) w1.drew 62 9 5 ⟨bo, 0, none⟩ co (between s (a + 1) (e - (a + 1))) Try.underlying62 Try.underlying5 Try.underlying9 (fun j hj => (HVO.out.cells rfl j _ (by simp [Lib.byteCells, List.getElem?_eq_getElem hj]))); rw [between_len s (a + 1) (e - (a + 1)) (by have := HQ.out.le; have := HNE.out; omega)] at hcv; obtain ⟨tx, htx⟩ : ∃ tx : ByteArray, tx = ⟨(between s (a + 1) (e - (a + 1))).toArray⟩ := ⟨_, rfl⟩; have hch := HCH.out; rw [← htx] at hcv hch; have HCH2 := Aside0.mk hch; clear hx1 x0 hch htx; have HFW := Aside0.mk (show Fr W w1 (fun i => i = g) from (fr_drewN (fr_below (Fr.refl W _) HBL.out)).trans HF1.out); have HO1 := Aside0.mk (own_fr HO.out HFW.out (fun b hb e => hga (by rw [hb, e])))
  have hlg : ∀ k, some k = vl.ownBlock → k < W.heap.size := fun k hk => (HO.out.lt k hk.symm).2
  have HLG := Aside0.mk hlg; clear hlg; obtain ⟨i0, hi, hz0, hz1, hz2⟩ := info_parts info_term
  have hbs1 : base ≤ w1.heap.size := by omega
  go_wp2_with fail
  go_region_law
    (first
      | (have hfl := HFL.out; refine step_append_own2 _ rfl _ _ 22 rfl base 42 i0 (.agg #[.int .i64 0, .string ⟨#[]⟩, .slice none 0 0]) 3 48 Try.underlying22 hi hz0 hz1 hz2 rfl (by decide) _ _ _ rfl HO2.out ⟨bc, 0, none⟩ r.length cc inner rfl hfl.len (HC2.out.cells rfl) hfl.one (by have := HN8.out; have := HR8.out; simp only [maxLen]; omega) (by have := HN8.out; have := HR8.out; omega) hbs2 ?_; intro v5 w5 hown5 hgrow5 hnew5; obtain ⟨b5, c5, hv5⟩ : ∃ b5 c5, v5 = .slice (some ⟨b5, 0, none⟩) (n + r.length) c5 := (by rcases hown5.2 with ⟨_, h0⟩ | ⟨b, cap, cur, hv, _⟩; (· have := HR0.out; omega); (· exact ⟨_, _, hv⟩)); subst hv5; have HO5 := Aside0.mk hown5; have HP5 := Aside0.mk (Pz.grown HP2.out hgrow5 (own_neG HO2.out (by decide) HP2.out)); have p53 := HP5.out.cells.2.2.2.1; have pf53 := HP5.out.fz 3; have HN5 := Aside0.mk (show ∀ b, (Value.slice (some ⟨b5, 0, none⟩) (n + r.length) c5).ownBlock = some b → vl.ownBlock = some b ∨ W.heap.size ≤ b from fun b hb => (hnew5 b hb).imp id (Nat.le_trans HF2.out.size)); have HX5 := Aside0.mk ((hgrow5.block _ (Array.getElem?_eq_some_iff.1 HX2.out).1 (fun e => Nat.lt_irrefl _ (HLG.out _ e))).trans HX2.out); have HZ5 := Aside0.mk (show w5.cell? ⟨W.heap.size, 0, none⟩ = some (.pointer (some ⟨g, 0, none⟩)) from (q9 HX5.out 0).trans rfl); have HZ6 := Aside0.mk (show (w5.setCell ⟨g, 3, none⟩ (.slice (some ⟨b5, 0, none⟩) (n + r.length) c5)).cell? ⟨W.heap.size, 0, none⟩ = some (.pointer (some ⟨g, 0, none⟩)) from (q9 ((Below.heap_setCell _ ⟨g, 3, none⟩ _ _ (by simp; omega)).trans HX5.out) 0).trans rfl); have HF5 := Aside0.mk ((HF2.out.mono (fun i _ e => .inl e)).trans (Fr.of_grown hgrow5 (fun i e => .inr e.symm)) : Fr W w5 (fun i => i = g ∨ some i = vl.ownBlock)); have z5 := HZ5.out; clear hown5 hgrow5 hnew5 hfl)
      | (go_simp; go_at_call 51; refine (term_Chars.calls kk tx r _ HCH2.out).mono ?_; rintro e w2 ⟨vc, rfl, hR, hb2'⟩; have hb2 := q14 (q26 (Below.refl w1.heap.size w1)) hb2'; obtain ⟨inner, hown2, hreps⟩ := hR.2; have HFL := Aside0.mk (flat_of_reps r inner HK.out hreps); obtain ⟨bc, cc, hvc⟩ : ∃ bc cc, vc = .slice (some ⟨bc, 0, none⟩) r.length cc := (by rcases hown2.2 with ⟨_, h0⟩ | ⟨b, cap, cur, hv, _⟩; (· have := HR0.out; omega); (· exact ⟨_, _, hv⟩)); subst hvc; have HP2 := Aside0.mk (HP1.out.newer hb2); have p3' := HP2.out.cells.2.2.2.1; have HX2 := Aside0.mk ((hb2.block _ hsz1).trans HX1.out); have HZ2 := Aside0.mk (show w2.cell? ⟨W.heap.size, 0, none⟩ = some (.pointer (some ⟨g, 0, none⟩)) from (q9 HX2.out 0).trans rfl); have HO2 := Aside0.mk (own_below4 HO1.out hb2); have HC2 := Aside0.mk hown2; have HF2 := Aside0.mk (fr_below HFW.out hb2); have hbs2 : base ≤ w2.heap.size := Nat.le_trans hbs1 hb2.size; have z2 := HZ2.out; clear hR hown2 hreps hb2 hb2')
      | fail)
  all_goals
    clear z0 p3 p3' p53 pf53 z2 z5
    go_wp2
    go_ret
    (with_reducible refine quote_fin ?_ HP5 HO5 HN5 HF5 HFL)
    rfl
end Go.Proofs.Ytdbjjaodkapikaa.TE
end
