/- Packed: item at variables and quotations. -/
import Derived.Test.YtjhjhhibbmligaaOTEPq
import Derived.Test.YtjhjhhibbmligaaOTEPs1
import Derived.Laws.IdiomStrings
namespace Go.Proofs.Ytjhjhhibbmligaa.TE
open Go.RowKit Go.Shelf Go.Proofs.YtjhjhhibbmligaaW.PrintWords Go.Proofs.YtjhjhhibbmligaaW.PrintLast Go.Proofs.YtjhjhhibbmligaaW.PrintMore Go.Proofs.Ytjhjhhibbmligaa.Evs
set_option linter.unusedVariables false
set_option linter.unusedSimpArgs false
set_option maxRecDepth 100000 in
set_option maxHeartbeats 4000000 in
theorem item_var.calls (g base : Nat) (s : ByteArray) (a a2 : Nat) (i kk : Nat) (tx : ByteArray) (fault : Int) (vl vs : Value) (n : Nat) (xs : List Value) (b : UInt8) (W : World) (h : Pz W g s a fault vl vs) (ho : W.ownsRow base 42 3 vl n xs) (hb : base ≤ g) (hn8 : n ≤ 1099511627776)
    (hxs : xs.length = n * 3) (hs : s.size ≤ 1099511627776) (ha : a + 1 < s.size) (hc : s[a]'(by omega) = b) (hdot : (s[a + 1]'ha).toNat = 46) (h39 : b.toNat ≠ 39) (h34 : b.toNat ≠ 34) (hidx : Lib.indexByte [115, 116, 101] b = (i : Int)) (hi3 : i < 3)
    (h2 : a2 = endF 3 s (a + 2)) (htx : tx = s.extract (a + 2) a2) (hr : term_right.f kk (5 + i) tx [] = some true) (hon : onB s a2 = false) :
    Calls Try.prog 120 #[.pointer (some ⟨g, 0, none⟩)] W fun e W' => e = .returned (.bool true) ∧ ∃ vl', Pz W' g s a2 fault vl' vs ∧ W'.ownsRow base 42 3 vl' (n + 1) (xs ++ [.int .i64 (5 + i), .string tx, .slice none 0 0]) ∧ (∀ b, vl'.ownBlock = some b → vl.ownBlock = some b ∨ W.heap.size ≤ b) ∧ Fr W W' (fun i => i = g ∨ some i = vl.ownBlock) := by
  have hga : some g ≠ vl.ownBlock := own_neG ho (by decide) h; have hbl : Below W.heap.size W (W.alloc (.cells #[.pointer (some ⟨g, 0, none⟩)] 139)) := (Below.refl _ _).alloc (Nat.le_refl _) _; have hn0 := World.alloc_heap_new W (.cells #[.pointer (some ⟨g, 0, none⟩)] 139); obtain ⟨W0, hW0⟩ : ∃ W0, W.alloc (.cells #[.pointer (some ⟨g, 0, none⟩)] 139) = W0 := ⟨_, rfl⟩; have HW0 := Aside0.mk hW0; rw [hW0] at hbl hn0; have x0 : W0.cell? ⟨W.heap.size, 0, none⟩ = some (.pointer (some ⟨g, 0, none⟩)) := (q4 hn0 0).trans rfl; have hp0 : Pz W0 g s a fault vl vs := h.newer hbl; obtain ⟨p0, p1, p2, p3, p4⟩ := hp0.cells; have pf1 := hp0.fz 1; have hgl : g < W.heap.size := (Array.getElem?_eq_some_iff.1 h).1; have ha0 : (0 : Int) ≤ (a : Int) := Int.natCast_nonneg _
  have ha00 : (0 : Int) ≤ (a : Int) + 1 := by omega
  have ha1 : (a : Int) < (s.size : Int) := by omega
  have ha2 : (a : Int) + 1 < (s.size : Int) := by omega
  have hbt : ((s[a]'(by omega)).toNat : Int) = (b.toNat : Int) := by rw [hc]
  have hbt2 : ((s[a + 1]'ha).toNat : Int) = 46 := by omega
  have hw4 : IntKind.i64.wrap ((a : Int) + 1) = (a : Int) + 1 := by rw [i64_w]; rw [wrap64_id (by omega) (by omega)]
  have hw5 : IntKind.i64.wrap ((a : Int) + 2) = (a : Int) + 2 := by rw [i64_w]; rw [wrap64_id (by omega) (by omega)]
  have hw6 : IntKind.i64.wrap (5 + (i : Int)) = 5 + (i : Int) := by rw [i64_w]; rw [wrap64_id (by omega) (by omega)]
  have e1 : decide ((a : Int) + 1 < (s.size : Int)) = true := decide_eq_true ha2
  have e39 : ((b.toNat : Int) == 39) = false := by simp; omega
  have e34 : ((b.toNat : Int) == 34) = false := by simp; omega
  have hidx' := index_at (b.toNat : Int) i (by simpa using hidx); have hi0 : (0 : Int) ≤ (i : Int) := Int.natCast_nonneg _; have HIDX := Aside0.mk hidx'; have HP0 := Aside0.mk hp0; have HBL := Aside0.mk hbl; have HN0 := Aside0.mk hn0; have HO := Aside0.mk ho; have HN8 := Aside0.mk hn8; have HXS := Aside0.mk hxs; have HS := Aside0.mk hs; have H2 := Aside0.mk h2; have HTX := Aside0.mk htx; have HR := Aside0.mk hr; have HON := Aside0.mk hon; clear h ho hn8 hp0 hbl hW0 hn0 hidx hidx' hs hc hxs h2 htx hr hon h39 h34 hdot hi3
  go_enter Try.func120, Try.ntmps120
  go_wp2_with fail
  rw [HW0.out]
  go_quiet (fail)
  generalize nq = nq1
  go_wp2_with fail
  go_quiet (first | (go_at_call 160; exact quiet_of2 (HIDX.out _)))
  go_wp2_with fail
  have hp1 : Pz ((W0.drewN (nq1 + nq)).setCell ⟨g, 1, none⟩ (.int .i64 ((a : Int) + 2))) g s ((a + 2 : Nat) : Int) fault vl vs := by have := HP0.out.drewN (n := nq1 + nq) |>.setAt ((a : Int) + 2); simpa using this
  have hf1 : Fr W ((W0.drewN (nq1 + nq)).setCell ⟨g, 1, none⟩ (.int .i64 ((a : Int) + 2))) (fun i => i = g) := fr_grown (fr_drewN (fr_below (Fr.refl W _) HBL.out)) (grown_set _ g 1 _); have hx1 : ((W0.drewN (nq1 + nq)).setCell ⟨g, 1, none⟩ (.int .i64 ((a : Int) + 2))).heap[W.heap.size]? = some (.cells #[.pointer (some ⟨g, 0, none⟩)] 139 (0, 0)) := (Below.heap_setCell _ ⟨g, 1, none⟩ _ _ (by simp; omega)).trans HN0.out; obtain ⟨W1, hW1⟩ : ∃ W1, (W0.drewN (nq1 + nq)).setCell ⟨g, 1, none⟩ (.int .i64 ((a : Int) + 2)) = W1 := ⟨_, rfl⟩; rw [hW1] at hp1 hf1 hx1 ⊢; have HP1 := Aside0.mk hp1; have HF1 := Aside0.mk hf1; have HX1 := Aside0.mk hx1; have z0 : W1.cell? ⟨W.heap.size, 0, none⟩ = some (.pointer (some ⟨g, 0, none⟩)) := (q4 hx1 0).trans rfl; have hsz1 : W.heap.size < W1.heap.size := (Array.getElem?_eq_some_iff.1 hx1).1; clear hW1 hp1 hf1 hx1 x0 p0 p1 p2 p3 p4 pf1 hw4 hw5 e1 e39 e34
  go_region_held3 (fun W' => Fr W1 W' (fun i => i = g ∨ some i = vl.ownBlock) ∧ W'.cell? ⟨W.heap.size, 0, none⟩ = some (.pointer (some ⟨g, 0, none⟩)))
    (first
      | exact ⟨fr_drew (Fr.refl _ _), z0⟩
      | exact ⟨fr_drewN (Fr.refl _ _), z0⟩
      | exact ⟨HF4.out, HZ4.out⟩
      | exact ⟨HF3.out, HZ3.out⟩
      | exact ⟨HF2.out, HZ2.out⟩
      | (go_split_ands; exact ⟨by assumption, by assumption⟩)
      | fail)
    (first
      | (go_at_call 160; refine (HIDX.out _).mono ?_; rintro e w' ⟨rfl, nd, rfl⟩)
      | (go_at_call 119; refine (longest.calls g s (a + 2) 3 fault vl vs _ HP1.out.drewN HS.out (by omega)).mono ?_; rintro e w2 ⟨rfl, hp, hg⟩; rw [← H2.out] at hp; have HP2 := Aside0.mk hp; have HG2 := Aside0.mk hg; have HF2 := Aside0.mk (show Fr W1 w2 (fun i => i = g ∨ some i = vl.ownBlock) from ⟨hg.os, hg.tape, hg.output, hg.size, fun k hk hn => hg.block k hk (fun e => hn (.inl (by cases e; rfl)))⟩); have HX2 := Aside0.mk ((hg.block _ hsz1 (fun e => by injection e with e; omega)).trans HX1.out); have HZ2 := Aside0.mk (show w2.cell? ⟨W.heap.size, 0, none⟩ = some (.pointer (some ⟨g, 0, none⟩)) from (q4 HX2.out 0).trans rfl); have HW2 := Aside0.mk (show Fr W w2 (fun i => i = g) from fr_grown (fr_drewN HF1.out) hg); clear hp hg; rw [← H2.out, ← HTX.out])
      | (go_at_call 159; refine (add1.calls g base s a2 fault a vl vs n xs (5 + (i : Int)) tx none 0 [] kk w2 HP2.out (own_fr HO.out HW2.out (fun b hb e => hga (by rw [hb, e]))) hb HN8.out HXS.out (Kd.C_nil k42 w2) (Nat.le_refl _) HR.out).mono ?_; rintro e w3 ⟨rfl, vl', hp, ho, hn, hf⟩; have HP3 := Aside0.mk hp; have HO3 := Aside0.mk ho; have HN3 := Aside0.mk hn; have HF3 := Aside0.mk (HF2.out.trans hf); have HX3 := Aside0.mk ((hf.block _ (Array.getElem?_eq_some_iff.1 HX2.out).1 (fun e => by rcases e with e | e; (· omega); (· have := (HO.out.lt _ e.symm).2; omega))).trans HX2.out); have HZ3 := Aside0.mk (show w3.cell? ⟨W.heap.size, 0, none⟩ = some (.pointer (some ⟨g, 0, none⟩)) from (q4 HX3.out 0).trans rfl); have HW3 := Aside0.mk ((HW2.out.mono (fun i _ e => .inl e)).trans hf); clear hp ho hn hf)
      | (go_at_call 161; have hap := apart.calls g s a2 fault vl' vs w3 HP3.out HS.out; rw [HON.out] at hap; refine hap.mono ?_; clear hap; rintro e w4 ⟨rfl, hp, hg⟩; have HP4 := Aside0.mk (show Pz w4 g s a2 fault vl' vs from hp); have HF4 := Aside0.mk (show Fr W1 w4 (fun i => i = g ∨ some i = vl.ownBlock) from HF3.out.trans (Fr.of_grown hg (fun i e => .inl (by cases e; rfl)))); have HZ4 := Aside0.mk (show w4.cell? ⟨W.heap.size, 0, none⟩ = some (.pointer (some ⟨g, 0, none⟩)) from (q4 ((hg.block _ (Array.getElem?_eq_some_iff.1 HX3.out).1 (fun e => by injection e with e; omega)).trans HX3.out) 0).trans rfl); have HO4 := Aside0.mk (own_grown HO3.out hg (fun b hb e => by injection e with e; exact own_neG HO3.out (by decide) HP3.out (by rw [← e]; exact hb.symm))); have HW4 := Aside0.mk (HW3.out.trans (Fr.of_grown hg (fun i e => .inl (by cases e; rfl)))); clear hp hg)
      | fail)
  go_wp2
  go_ret; exact ⟨rfl, vl', HP4.out, HO4.out, fun b hb => (HN3.out b hb).imp id (Nat.le_trans HW2.out.size), HW4.out⟩
end Go.Proofs.Ytjhjhhibbmligaa.TE
namespace Go.Proofs.Ytjhjhhibbmligaa.TE
open Go.RowKit Go.Shelf Go.Proofs.YtjhjhhibbmligaaW.PrintWords Go.Proofs.YtjhjhhibbmligaaW.PrintLast Go.Proofs.YtjhjhhibbmligaaW.PrintMore Go.Proofs.Ytjhjhhibbmligaa.Evs
set_option linter.unusedVariables false
set_option linter.unusedSimpArgs false
inductive Flat : List Tm → List Value → Prop
  | nil : Flat [] []
  | cons (k : Int) (t : ByteArray) (A : Option Addr) (c : Nat) (r : List Tm) (cs : List Value) : Flat r cs → Flat (⟨k, t, []⟩ :: r) (.int .i64 k :: .string t :: .slice A 0 c :: cs)
theorem Flat.len {r : List Tm} {cs : List Value} (h : Flat r cs) : cs.length = r.length * 3 := by
  induction h with
  | nil => rfl
  | cons k t A c r cs h ih => simp [ih]; omega
theorem Flat.one {r : List Tm} {cs : List Value} (h : Flat r cs) : ∀ u ∈ cs, u.oneCell' = true := by
  induction h with
  | nil => simp
  | cons k t A c r cs h ih =>
    intro u hu; simp only [List.mem_cons] at hu
    rcases hu with rfl | rfl | rfl | hu
    · rfl
    · rfl
    · rfl
    · exact ih u hu
theorem flat_of_reps {W : World} {base : Nat} {ok : Nat → Prop} : ∀ (r : List Tm) (cs : List Value), (∀ x ∈ r, x.f2 = []) → Reps (k42.M W base ok) 3 r cs → Flat r cs
  | [], cs, _, h => by
    have : cs = [] := List.length_eq_zero_iff.1 (by rw [h.1]; simp); subst this; exact .nil
  | x :: r, cs, hk, h => by
    have h0 := h.2 0 x rfl; obtain ⟨v2, he, hR⟩ := k42_openM h0; have hl := h.1; obtain ⟨k, t, f2⟩ := x; have hf : f2 = [] := hk _ List.mem_cons_self; subst hf; simp only [Nat.zero_mul, List.drop_zero] at he
    have hcs : cs = [.int .i64 k, .string t, v2] ++ cs.drop 3 := by rw [← he, List.take_append_drop]
    have hv : ∃ A c, v2 = .slice A 0 c := by
      obtain ⟨A, c, hv, _⟩ := Kd.R_reads hR; exact ⟨A, c, hv⟩
    obtain ⟨A, c, rfl⟩ := hv; rw [hcs]; show Flat _ (.int .i64 k :: .string t :: .slice A 0 c :: cs.drop 3); refine .cons k t A c r _ (flat_of_reps (W := W) (base := base) (ok := ok) r (cs.drop 3) (fun y hy => hk y (List.mem_cons_of_mem _ hy)) ⟨by rw [List.length_drop, hl]; simp; omega, fun j p hp => ?_⟩); have := h.2 (j + 1) p (by simpa using hp); rw [List.drop_drop]
    rwa [show 3 + j * 3 = (j + 1) * 3 by omega]
theorem quote_fin {W w5 : World} {g base m b5 c5 : Nat} {s : ByteArray} {at_ fault : Int} {vl vs v6 : Value} {xs cs : List Value} {r : List Tm} (h6 : v6 = .bool true) (hp : Aside0 (Pz w5 g s at_ fault vl vs)) (ho : Aside0 (w5.ownsRow base 42 3 (.slice (some ⟨b5, 0, none⟩) m c5) m (xs ++ cs)))
    (hn : Aside0 (∀ b, (Value.slice (some ⟨b5, 0, none⟩) m c5).ownBlock = some b → vl.ownBlock = some b ∨ W.heap.size ≤ b)) (hf : Aside0 (Fr W w5 (fun i => i = g ∨ some i = vl.ownBlock))) (hfl : Aside0 (Flat r cs)) :
    Ending.returned v6 = .returned (.bool true) ∧ ∃ vl' cs, Pz (w5.setCell ⟨g, 3, none⟩ (.slice (some ⟨b5, 0, none⟩) m c5)) g s at_ fault vl' vs ∧ (w5.setCell ⟨g, 3, none⟩ (.slice (some ⟨b5, 0, none⟩) m c5)).ownsRow base 42 3 vl' m (xs ++ cs) ∧ Flat r cs ∧ (∀ b, vl'.ownBlock = some b → vl.ownBlock = some b ∨ W.heap.size ≤ b) ∧
      Fr W (w5.setCell ⟨g, 3, none⟩ (.slice (some ⟨b5, 0, none⟩) m c5)) (fun i => i = g ∨ some i = vl.ownBlock) :=
  ⟨by rw [h6], _, cs, hp.out.setList _, own_farG ho.out g 3 _ (own_neG ho.out (by decide) hp.out), hfl.out, hn.out, hf.out.trans (Fr.of_grown (grown_set _ g 3 _) (fun i e => .inl (by cases e; rfl)))⟩
set_option maxRecDepth 100000 in
set_option maxHeartbeats 4000000 in
theorem item_quote.calls (g base : Nat) (s : ByteArray) (a e : Nat) (kk : Nat) (r : List Tm) (fault : Int) (vl vs : Value) (n : Nat) (xs : List Value) (W : World) (h : Pz W g s a fault vl vs) (ho : W.ownsRow base 42 3 vl n xs) (hb : base ≤ g) (hn8 : n ≤ 1099511627776)
    (hxs : xs.length = n * 3) (hs : s.size ≤ 1099511627776) (ha : a < s.size) (hc : (s[a]'ha).toNat = 39) (hq : Plainly s a e) (hne : a + 1 < e) (hch : term_Chars.f kk ⟨(between s (a + 1) (e - (a + 1))).toArray⟩ = some r) (hr0 : 0 < r.length) (hr8 : r.length ≤ 100000) (hk : ∀ x ∈ r, x.f2 = []) :
    Calls Try.prog 120 #[.pointer (some ⟨g, 0, none⟩)] W fun x W' => x = .returned (.bool true) ∧ ∃ vl' cs, Pz W' g s ((e + 1 : Nat) : Int) fault vl' vs ∧ W'.ownsRow base 42 3 vl' (n + r.length) (xs ++ cs) ∧ Flat r cs ∧ (∀ b, vl'.ownBlock = some b → vl.ownBlock = some b ∨ W.heap.size ≤ b) ∧ Fr W W' (fun i => i = g ∨ some i = vl.ownBlock) := by
  have hga : some g ≠ vl.ownBlock := own_neG ho (by decide) h; have hbl : Below W.heap.size W (W.alloc (.cells #[.pointer (some ⟨g, 0, none⟩)] 139)) := (Below.refl _ _).alloc (Nat.le_refl _) _; have hn0 := World.alloc_heap_new W (.cells #[.pointer (some ⟨g, 0, none⟩)] 139); obtain ⟨W0, hW0⟩ : ∃ W0, W.alloc (.cells #[.pointer (some ⟨g, 0, none⟩)] 139) = W0 := ⟨_, rfl⟩; have HW0 := Aside0.mk hW0; rw [hW0] at hbl hn0; have x0 : W0.cell? ⟨W.heap.size, 0, none⟩ = some (.pointer (some ⟨g, 0, none⟩)) := (q4 hn0 0).trans rfl; have hp0 : Pz W0 g s a fault vl vs := h.newer hbl; obtain ⟨p0, p1, p2, p3, p4⟩ := hp0.cells; have hgl : g < W.heap.size := (Array.getElem?_eq_some_iff.1 h).1; have ha0 : (0 : Int) ≤ (a : Int) := Int.natCast_nonneg _
  have ha1 : (a : Int) < (s.size : Int) := by omega
  have hbt : ((s[a]'ha).toNat : Int) = 39 := by omega
  have HP0 := Aside0.mk hp0; have HBL := Aside0.mk hbl; have HN0 := Aside0.mk hn0; have HO := Aside0.mk ho; have HN8 := Aside0.mk hn8; have HXS := Aside0.mk hxs; have HS := Aside0.mk hs; have HQ := Aside0.mk hq; have HCH := Aside0.mk hch; have HR0 := Aside0.mk hr0; have HR8 := Aside0.mk hr8; have HK := Aside0.mk hk; have HNE := Aside0.mk hne; clear h ho hn8 hp0 hbl hW0 hn0 hs hc hxs hq hch hr0 hr8 hk hne
  go_enter Try.func120, Try.ntmps120
  go_wp2_with fail
  rw [HW0.out]
  go_quiet (fail)
  generalize nq = nq1
  go_wp2_with fail
  refine (quotation1.calls g s a e fault vl vs _ HP0.out.drewN HS.out HQ.out).mono ?_; rintro e' w1 ⟨vo, rfl, hp, hvo, hf⟩; have HP1 := Aside0.mk hp; have HVO := Aside0.mk hvo; have HF1 := Aside0.mk hf; clear hp hvo hf p0 p1 p2 p3 p4; have hx1 := (HF1.out.block _ (Array.getElem?_eq_some_iff.1 HN0.out).1 (fun e => by omega)).trans HN0.out; have z0 : w1.cell? ⟨W.heap.size, 0, none⟩ = some (.pointer (some ⟨g, 0, none⟩)) := (q4 hx1 0).trans rfl; have p3 := HP1.out.cells.2.2.2.1; have HX1 := Aside0.mk hx1; have hsz1 : W.heap.size < w1.heap.size := (Array.getElem?_eq_some_iff.1 hx1).1
  obtain ⟨bo, co, hvoe⟩ : ∃ bo co, vo = .slice (some ⟨bo, 0, none⟩) (e - (a + 1)) co := by
    rcases HVO.out.2 with ⟨_, h0⟩ | ⟨b, cap, cur, hv, _⟩
    · have := HNE.out; omega
    · exact ⟨_, _, hv⟩
  subst hvoe; have hcv := run_convert_bytes_back (P := Try.prog) w1.drew 132 9 5 ⟨bo, 0, none⟩ co (between s (a + 1) (e - (a + 1))) Try.underlying132 Try.underlying5 Try.underlying9 (fun j hj => (HVO.out.cells rfl j _ (by simp [Lib.byteCells, List.getElem?_eq_getElem hj]))); rw [between_len s (a + 1) (e - (a + 1)) (by have := HQ.out.le; have := HNE.out; omega)] at hcv; obtain ⟨tx, htx⟩ : ∃ tx : ByteArray, tx = ⟨(between s (a + 1) (e - (a + 1))).toArray⟩ := ⟨_, rfl⟩; have hch := HCH.out; rw [← htx] at hcv hch; have HCH2 := Aside0.mk hch; clear hx1 x0 hch htx; have HFW := Aside0.mk (show Fr W w1 (fun i => i = g) from (fr_drewN (fr_below (Fr.refl W _) HBL.out)).trans HF1.out); have HO1 := Aside0.mk (own_fr HO.out HFW.out (fun b hb e => hga (by rw [hb, e])))
  have hlg : ∀ k, some k = vl.ownBlock → k < W.heap.size := fun k hk => (HO.out.lt k hk.symm).2
  have HLG := Aside0.mk hlg; clear hlg; obtain ⟨i0, hi, hz0, hz1, hz2⟩ := info_parts info_term
  have hbs1 : base ≤ w1.heap.size := by omega
  go_wp2_with fail
  go_region_law
    (first
      | (have hfl := HFL.out; refine step_append_own2 _ rfl _ _ 22 rfl base 42 i0 (.agg #[.int .i64 0, .string ⟨#[]⟩, .slice none 0 0]) 3 48 Try.underlying22 hi hz0 hz1 hz2 rfl (by decide) _ _ _ rfl HO2.out ⟨bc, 0, none⟩ r.length cc inner rfl hfl.len (HC2.out.cells rfl) hfl.one (by have := HN8.out; have := HR8.out; simp only [maxLen]; omega) (by have := HN8.out; have := HR8.out; omega) hbs2 ?_; intro v5 w5 hown5 hgrow5 hnew5; obtain ⟨b5, c5, hv5⟩ : ∃ b5 c5, v5 = .slice (some ⟨b5, 0, none⟩) (n + r.length) c5 := (by rcases hown5.2 with ⟨_, h0⟩ | ⟨b, cap, cur, hv, _⟩; (· have := HR0.out; omega); (· exact ⟨_, _, hv⟩)); subst hv5; have HO5 := Aside0.mk hown5; have HP5 := Aside0.mk (Pz.grown HP2.out hgrow5 (own_neG HO2.out (by decide) HP2.out)); have p53 := HP5.out.cells.2.2.2.1; have pf53 := HP5.out.fz 3; have HN5 := Aside0.mk (show ∀ b, (Value.slice (some ⟨b5, 0, none⟩) (n + r.length) c5).ownBlock = some b → vl.ownBlock = some b ∨ W.heap.size ≤ b from fun b hb => (hnew5 b hb).imp id (Nat.le_trans HF2.out.size)); have HX5 := Aside0.mk ((hgrow5.block _ (Array.getElem?_eq_some_iff.1 HX2.out).1 (fun e => Nat.lt_irrefl _ (HLG.out _ e))).trans HX2.out); have HZ5 := Aside0.mk (show w5.cell? ⟨W.heap.size, 0, none⟩ = some (.pointer (some ⟨g, 0, none⟩)) from (q4 HX5.out 0).trans rfl); have HZ6 := Aside0.mk (show (w5.setCell ⟨g, 3, none⟩ (.slice (some ⟨b5, 0, none⟩) (n + r.length) c5)).cell? ⟨W.heap.size, 0, none⟩ = some (.pointer (some ⟨g, 0, none⟩)) from (q4 ((Below.heap_setCell _ ⟨g, 3, none⟩ _ _ (by simp; omega)).trans HX5.out) 0).trans rfl); have HF5 := Aside0.mk ((HF2.out.mono (fun i _ e => .inl e)).trans (Fr.of_grown hgrow5 (fun i e => .inr e.symm)) : Fr W w5 (fun i => i = g ∨ some i = vl.ownBlock)); have z5 := HZ5.out; clear hown5 hgrow5 hnew5 hfl)
      | (go_simp; go_at_call 68; refine (term_Chars.calls kk tx r _ HCH2.out).mono ?_; rintro e w2 ⟨vc, rfl, hR, hb2'⟩; have hb2 := q12 (below_drew (Below.refl w1.heap.size w1)) hb2'; obtain ⟨inner, hown2, hreps⟩ := hR.2; have HFL := Aside0.mk (flat_of_reps r inner HK.out hreps); obtain ⟨bc, cc, hvc⟩ : ∃ bc cc, vc = .slice (some ⟨bc, 0, none⟩) r.length cc := (by rcases hown2.2 with ⟨_, h0⟩ | ⟨b, cap, cur, hv, _⟩; (· have := HR0.out; omega); (· exact ⟨_, _, hv⟩)); subst hvc; have HP2 := Aside0.mk (HP1.out.newer hb2); have p3' := HP2.out.cells.2.2.2.1; have HX2 := Aside0.mk ((hb2.block _ hsz1).trans HX1.out); have HZ2 := Aside0.mk (show w2.cell? ⟨W.heap.size, 0, none⟩ = some (.pointer (some ⟨g, 0, none⟩)) from (q4 HX2.out 0).trans rfl); have HO2 := Aside0.mk (own_below4 HO1.out hb2); have HC2 := Aside0.mk hown2; have HF2 := Aside0.mk (fr_below HFW.out hb2); have hbs2 : base ≤ w2.heap.size := Nat.le_trans hbs1 hb2.size; have z2 := HZ2.out; clear hR hown2 hreps hb2 hb2')
      | fail)
  all_goals
    clear z0 p3 p3' p53 pf53 z2 z5
    go_wp2
    go_ret
    (with_reducible refine quote_fin ?_ HP5 HO5 HN5 HF5 HFL)
    rfl
end Go.Proofs.Ytjhjhhibbmligaa.TE
