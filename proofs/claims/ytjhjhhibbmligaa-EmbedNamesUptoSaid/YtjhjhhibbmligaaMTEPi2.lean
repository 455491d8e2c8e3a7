/- The parser: item at a variable, in general. -/
import Derived.Test.YtjhjhhibbmligaaMTEPq
section
namespace Go.Proofs.Ytjhjhhibbmligaa.TE
open Go.RowKit Go.Shelf Go.Proofs.YtjhjhhibbmligaaW.PrintWords Go.Proofs.YtjhjhhibbmligaaW.PrintLast Go.Proofs.YtjhjhhibbmligaaW.PrintMore Go.Proofs.Ytjhjhhibbmligaa.Evs
set_option linter.unusedVariables false
set_option linter.unusedSimpArgs false
structure PM (n : Nat) (w0 W : World) (g : Nat) (s : ByteArray) (a : Int) (fault : Int) (l : List Tm) (st : List Op) : Prop where
  below : Below w0.heap.size w0 W
  geb : w0.heap.size ≤ g
  gn : g < n
  nle : n ≤ W.heap.size
  mem : ∃ vl vs avs, List.length avs = st.length ∧ Pz W g s a fault vl vs ∧ W.ownsRow w0.heap.size 203 4 vs st.length ((avs.zip st).reverse.flatMap opCells) ∧ (∀ k, vs.ownBlock = some k → k < n) ∧
    Rows W w0.heap.size (fun k => k < n ∧ k ≠ g ∧ some k ≠ vs.ownBlock) ((vl, l) :: avs.zip (st.map (·.ahead)))
theorem PS.pm {w0 W : World} {g : Nat} {s : ByteArray} {a fault : Int} {l : List Tm} {st : List Op} (h : PS w0 W g s a fault l st) : PM W.heap.size w0 W g s a fault l st := by
  obtain ⟨vl, vs, avs, h1, h2, h3, h4⟩ := h.mem; exact ⟨h.below, h.geb, h.lt, Nat.le_refl _, vl, vs, avs, h1, h2, h3, fun k e => (own_ltA h3 k e).1, h4⟩
theorem PM.ps {n : Nat} {w0 W : World} {g : Nat} {s : ByteArray} {a fault : Int} {l : List Tm} {st : List Op} (h : PM n w0 W g s a fault l st) : PS w0 W g s a fault l st := by
  obtain ⟨vl, vs, avs, h1, h2, h3, _, h4⟩ := h.mem; exact ⟨h.below, h.geb, vl, vs, avs, h1, h2, h3, Rows.move h4 (fun _ _ _ => rfl) (fun k hk => ⟨Nat.lt_of_lt_of_le hk.1 h.nle, hk.2⟩)⟩
theorem PM.field {n : Nat} {w0 W W' : World} {g : Nat} {s : ByteArray} {a a' fault fault' : Int} {l : List Tm} {st : List Op} (h : PM n w0 W g s a fault l st) (hg : W.grownBy W' (some g)) (hp : ∀ vl vs, Pz W g s a fault vl vs → Pz W' g s a' fault' vl vs) : PM n w0 W' g s a' fault' l st := by
  obtain ⟨vl, vs, avs, h1, h2, h3, h5, h4⟩ := h.mem; have hne : some g ≠ vs.ownBlock := own_neG h3 (by decide) h2; refine ⟨h.below.grown hg h.below.size (fun k e => by cases e; exact h.geb), h.geb, h.gn, Nat.le_trans h.nle hg.size, vl, vs, avs, h1, hp _ _ h2, own_grown h3 hg (fun b e e' => hne (by rw [e]; exact e'.symm)), h5, Rows.move h4 (fun k hk hl => hg.block k hl (fun e => hk.2.1 (by cases e; rfl))) (fun k hk => hk)⟩
theorem PM.drewN {n : Nat} {w0 W : World} {g m : Nat} {s : ByteArray} {a fault : Int} {l : List Tm} {st : List Op} (h : PM n w0 W g s a fault l st) : PM n w0 (W.drewN m) g s a fault l st := by
  have hg : W.grownBy (W.drewN m) (some g) := ⟨rfl, rfl, rfl, Nat.le_refl _, fun _ _ _ => rfl⟩; exact h.field hg (fun _ _ hp => hp)
theorem PM.newer {n : Nat} {w0 W W' : World} {g : Nat} {s : ByteArray} {a fault : Int} {l : List Tm} {st : List Op} (h : PM n w0 W g s a fault l st) (hb : Below W.heap.size W W') : PM n w0 W' g s a fault l st := by
  have hg : W.grownBy W' (some g) := ⟨hb.os, hb.tape, hb.output, hb.size, fun k hk _ => hb.block k hk⟩; exact h.field hg (fun _ _ hp => Pz.newer hp hb)
theorem PM.setAt {n : Nat} {w0 W : World} {g : Nat} {s : ByteArray} {a fault : Int} {l : List Tm} {st : List Op} (h : PM n w0 W g s a fault l st) (x : Int) : PM n w0 (W.setCell ⟨g, 1, none⟩ (.int .i64 x)) g s x fault l st :=
  h.field (grown_set W g 1 _) (fun _ _ hp => hp.setAt x)
theorem PM.cells {n : Nat} {w0 W : World} {g : Nat} {s : ByteArray} {a fault : Int} {l : List Tm} {st : List Op} (h : PM n w0 W g s a fault l st) : W.cell? ⟨g, 0, none⟩ = some (.string s) ∧ W.cell? ⟨g, 1, none⟩ = some (.int .i64 a) ∧ W.cell? ⟨g, 2, none⟩ = some (.int .i64 fault) ∧ W.frozen? ⟨g, 1, none⟩ = false := h.ps.cells
theorem PM.longest {n : Nat} {w0 W : World} {g a : Nat} {s : ByteArray} {fault : Int} {l : List Tm} {st : List Op} (h : PM n w0 W g s a fault l st) (m : Int) (hs : s.size ≤ 1099511627776) (ha : a ≤ s.size) :
    Calls Try.prog 119 #[.pointer (some ⟨g, 0, none⟩), .int .u8 m] W fun e W' => e = .returned (.string (s.extract a (endF m s a))) ∧ PM n w0 W' g s (endF m s a) fault l st ∧ W.grownBy W' (some g) := by
  obtain ⟨vl, vs, avs, h1, h2, h3, _, h4⟩ := h.mem; refine (longest.calls g s a m fault vl vs W h2 hs ha).mono ?_; rintro e W' ⟨rfl, hp, hg⟩; refine ⟨rfl, h.field hg (fun vl' vs' h2' => ?_), hg⟩; rw [(PS.uniq h2 h2').1, (PS.uniq h2 h2').2]; exact hp
theorem PM.add {n : Nat} {w0 W : World} {g : Nat} {s : ByteArray} {a fault : Int} {l : List Tm} {st : List Op} (h : PM n w0 W g s a fault l st) (k : Int) (tx : ByteArray) (x : Int) (kk : Nat) (r : Bool) (hr : term_right.f kk k tx [] = some r) (hl : l.length ≤ 1099511627776) :
    Calls Try.prog 159 #[.pointer (some ⟨g, 0, none⟩), .agg #[.int .i64 k, .string tx, .slice none 0 0], .int .i64 x] W fun e W' => e = .returned (.bool r) ∧ PS w0 W' g s a (if r = true then fault else failF fault x) (if r = true then l ++ [⟨k, tx, []⟩] else l) st ∧ (∀ j, n ≤ j → j < W.heap.size → W'.heap[j]? = W.heap[j]?) := by
  obtain ⟨vl, vs, avs, h1, h2, h3, h5, h4⟩ := h.mem; obtain ⟨ok, o1, o2, o3⟩ := h4; obtain ⟨xs, ho, hrep⟩ := o2.own; have hne : some g ≠ vs.ownBlock := own_neG h3 (by decide) h2; have hgn := h.gn; have hnle := h.nle
  cases r with
  | false =>
    refine (add0.calls g w0.heap.size s a fault x vl vs l.length xs k tx none 0 [] kk W h2 ho h.geb hl ho.1 (Kd.C_nil _ _) (Nat.le_refl _) hr).mono ?_; rintro e W' ⟨rfl, hp, hf⟩; refine ⟨rfl, ?_, fun j h1 h2 => hf.block j h2 (fun e => by omega)⟩; rw [if_neg (by decide), if_neg (by decide)]; refine ⟨fr_below0 h.below hf (fun k e => by rw [e]; exact h.geb), h.geb, vl, vs, avs, h1, hp, own_same h3 (fun k e => hf.block k (own_ltA h3 k e).1 (fun e' => hne (by rw [← e', e]))), Rows.move ⟨ok, o1, o2, o3⟩ (fun k hk hl => hf.block k hl (fun e => hk.2.1 e)) (fun k hk => ⟨Nat.lt_of_lt_of_le hk.1 (Nat.le_trans hnle hf.size), hk.2⟩)⟩
  | true =>
    refine (add1.calls g w0.heap.size s a fault x vl vs l.length xs k tx none 0 [] kk W h2 ho h.geb hl ho.1 (Kd.C_nil _ _) (Nat.le_refl _) hr).mono ?_; rintro e W' ⟨rfl, vl', hp, ho', hat, hf⟩; refine ⟨rfl, ?_, fun j h1 h2 => hf.block j h2 (fun e => e.elim (fun e => by omega) (fun e => by have := (o1 j (o2.1 j e.symm)).1; omega))⟩; rw [if_pos rfl, if_pos rfl]
    have hvl : ∀ k, vl.ownBlock = some k → some k ≠ vs.ownBlock := fun k e => (o1 k (o2.1 k e)).2.2
    have hgv : some g ≠ vl.ownBlock := own_ne ho h2
    have hsame : ∀ k, k < W.heap.size → k ≠ g → some k ≠ vl.ownBlock → W'.heap[k]? = W.heap[k]? := fun k hl hk hv => hf.block k hl (fun e => e.elim hk hv)
    refine ⟨fr_below0 h.below hf (fun k e => e.elim (fun e => by rw [e]; exact h.geb) (fun e => (own_ltA ho k e.symm).2)), h.geb, vl', vs, avs, h1, hp,
      own_same h3 (fun k e => hsame k (own_ltA h3 k e).1 (fun e' => hne (by rw [← e', e])) (fun e' => hvl k e'.symm e.symm)), ?_⟩
    refine ⟨fun k => (ok k ∧ k < W.heap.size) ∨ W.heap.size ≤ k ∧ k < W'.heap.size, fun k hk => ?_, ?_, ?_⟩
    · rcases hk with hk | hk
      · exact ⟨Nat.lt_of_lt_of_le hk.2 hf.size, (o1 k hk.1).2⟩
      · exact ⟨hk.2, by have := h.ps.lt; omega, fun e => by have := (own_ltA h3 k e.symm).1; omega⟩
    · exact o2.snoc hrep ho' hat hf (fun hk => (o1 g hk).2.1 rfl) (fun k hk hl => .inl ⟨hk, hl⟩) (fun k h1 h2 => .inr ⟨h1, h2⟩) (leaf_FK _ _ _ _) rfl
    · refine Rows.move o3 (fun k hk hl => hsame k hl hk.1.2.1 (fun e => hk.2 (o2.1 k e.symm))) (fun k hk => ⟨⟨Nat.lt_of_lt_of_le hk.1.1 (Nat.le_trans hnle hf.size), hk.1.2⟩, fun e => ?_⟩)
      rcases e with e | e
      · exact hk.2 e.1
      · have := hk.1.1; omega
theorem PM.quotation {n : Nat} {w0 W : World} {g a : Nat} {s : ByteArray} {fault : Int} {l : List Tm} {st : List Op} (h : PM n w0 W g s a fault l st) (hs : s.size ≤ 1048576) (has : a < s.size) :
    Calls Try.prog 158 #[.pointer (some ⟨g, 0, none⟩)] W fun x W' => ∃ vo, x = .returned (.tuple #[vo, .bool (quoS s (s[a]'has) (a + 1) []).1]) ∧ PM n w0 W' g s ((quoS s (s[a]'has) (a + 1) []).2.1 : Nat) (failO fault (quoS s (s[a]'has) (a + 1) []).2.2.1) l st ∧
      W'.ownsRow W.heap.size 5 1 vo (quoS s (s[a]'has) (a + 1) []).2.2.2.length (Lib.byteCells (quoS s (s[a]'has) (a + 1) []).2.2.2) ∧ W.grownBy W' (some g) := by
  obtain ⟨vl, vs, avs, h1, h2, h3, _, h4⟩ := h.mem; refine (quotation.calls g s a fault vl vs W h2 hs has).mono ?_; rintro e W' ⟨vo, rfl, hp, ho, hf⟩; have hg : W.grownBy W' (some g) := ⟨hf.os, hf.tape, hf.output, hf.size, fun k hk hn => hf.block k hk (fun e => hn (by rw [e]))⟩; refine ⟨vo, rfl, h.field hg (fun vl' vs' h2' => ?_), ho, hg⟩; rw [(PS.uniq h2 h2').1, (PS.uniq h2 h2').2]; exact hp
def tokS (s : ByteArray) (k : Int) (tx : ByteArray) (x a : Nat) (fault : Int) (l : List Tm) : Bool × Int × List Tm :=
  if rightS (⟨k, tx, []⟩ : Tm) = true then (if onB s a = true then (false, failF fault a, l ++ [⟨k, tx, []⟩]) else (true, fault, l ++ [⟨k, tx, []⟩])) else (false, failF fault x, l)
end Go.Proofs.Ytjhjhhibbmligaa.TE
end
section
namespace Go.Proofs.Ytjhjhhibbmligaa.TE
open Go.RowKit Go.Shelf Go.Proofs.YtjhjhhibbmligaaW.PrintWords Go.Proofs.YtjhjhhibbmligaaW.PrintLast Go.Proofs.YtjhjhhibbmligaaW.PrintMore Go.Proofs.Ytjhjhhibbmligaa.Evs
set_option linter.unusedVariables false
set_option linter.unusedSimpArgs false
set_option maxRecDepth 100000 in
set_option maxHeartbeats 4000000 in
theorem PS.item_var {w0 W : World} {g a : Nat} {s : ByteArray} {fault : Int} {l : List Tm} {st : List Op} (h : PS w0 W g s a fault l st) (hs : s.size ≤ 1048576) (hn8 : l.length ≤ 1099511627776) (b : UInt8) (i : Nat)
    (ha : a + 1 < s.size) (hc : s[a]'(by omega) = b) (hdot : (s[a + 1]'ha).toNat = 46) (h39 : b.toNat ≠ 39) (h34 : b.toNat ≠ 34) (hidx : Lib.indexByte [115, 116, 101] b = (i : Int)) (hi3 : i < 3) (R : Bool × Int × List Tm) (hR : R = tokS s (5 + i) (s.extract (a + 2) (endF 3 s (a + 2))) a (endF 3 s (a + 2)) fault l) :
    Calls Try.prog 120 #[.pointer (some ⟨g, 0, none⟩)] W fun e W' => e = .returned (.bool R.1) ∧ PS w0 W' g s (endF 3 s (a + 2)) R.2.1 R.2.2 st := by
  have hbl : Below W.heap.size W (W.alloc (.cells #[.pointer (some ⟨g, 0, none⟩)] 139)) := (Below.refl _ _).alloc (Nat.le_refl _) _; have hn0 := World.alloc_heap_new W (.cells #[.pointer (some ⟨g, 0, none⟩)] 139); obtain ⟨W0, hW0⟩ : ∃ W0, W.alloc (.cells #[.pointer (some ⟨g, 0, none⟩)] 139) = W0 := ⟨_, rfl⟩; have HW0 := Aside0.mk hW0; rw [hW0] at hbl hn0; have x0 : W0.cell? ⟨W.heap.size, 0, none⟩ = some (.pointer (some ⟨g, 0, none⟩)) := (q4 hn0 0).trans rfl; have hp0 : PM W.heap.size w0 W0 g s a fault l st := h.pm.newer hbl; obtain ⟨p0, p1, p2, pf1⟩ := hp0.cells; have hgl : g < W.heap.size := h.lt; have ha0 : (0 : Int) ≤ (a : Int) := Int.natCast_nonneg _
  have ha00 : (0 : Int) ≤ (a : Int) + 1 := by omega
  have ha1 : (a : Int) < (s.size : Int) := by omega
  have ha2 : (a : Int) + 1 < (s.size : Int) := by omega
  have hbt : ((s[a]'(by omega)).toNat : Int) = (b.toNat : Int) := by rw [hc]
  have hbt2 : ((s[a + 1]'ha).toNat : Int) = 46 := by omega
  have hw4 : IntKind.i64.wrap ((a : Int) + 1) = (a : Int) + 1 := by rw [i64_w]; rw [wrap64_id (by omega) (by omega)]
  have hw5 : IntKind.i64.wrap ((a : Int) + 2) = (a : Int) + 2 := by rw [i64_w]; rw [wrap64_id (by omega) (by omega)]
  have hw6 : IntKind.i64.wrap (5 + (i : Int)) = 5 + (i : Int) := by rw [i64_w]; rw [wrap64_id (by omega) (by omega)]
  have e1 : decide ((a : Int) + 1 < (s.size : Int)) = true := decide_eq_true ha2
  have e39 : ((b.toNat : Int) == 39) = false := by simp; omega
  have e34 : ((b.toNat : Int) == 34) = false := by simp; omega
  have hidx' := index_at (b.toNat : Int) i (by simpa using hidx); have hi0 : (0 : Int) ≤ (i : Int) := Int.natCast_nonneg _; obtain ⟨a2, h2⟩ : ∃ a2, a2 = endF 3 s (a + 2) := ⟨_, rfl⟩; obtain ⟨tx, htx⟩ : ∃ tx, tx = s.extract (a + 2) a2 := ⟨_, rfl⟩; rw [← h2, ← htx] at hR; rw [← h2]
  have htl : tx.size ≤ 1099511627776 := by
    have h := size_len (s.extract (a + 2) a2); rw [extract_list, List.length_take, List.length_drop, ← size_len] at h; rw [htx]; omega
  obtain ⟨r, hri⟩ : ∃ r, r = rightS (⟨5 + i, tx, []⟩ : Tm) := ⟨_, rfl⟩; obtain ⟨on, hon⟩ : ∃ on, on = onB s a2 := ⟨_, rfl⟩; obtain ⟨kk, hkk⟩ := (right_ev (x := (⟨5 + i, tx, []⟩ : Tm)) htl).get; rw [← hri] at hkk; unfold tokS at hR; rw [← hri, ← hon] at hR; have HRR := Aside0.mk hR
  have hs' : s.size ≤ 1099511627776 := by omega
  have hle2 : a + 2 ≤ s.size := by omega
  have HLE := Aside0.mk hle2; have HIDX := Aside0.mk hidx'; have HP0 := Aside0.mk hp0; have HBL := Aside0.mk hbl; have HN0 := Aside0.mk hn0; have HN8 := Aside0.mk hn8; have HS := Aside0.mk hs'; have H2 := Aside0.mk h2; have HTX := Aside0.mk htx; have HR := Aside0.mk hkk; have HON := Aside0.mk hon; clear h hn8 hp0 hbl hW0 hn0 hidx hidx' hs hs' hc h2 htx hkk hon h39 h34 hdot hi3 hR hri htl hle2
  go_enter Try.func120, Try.ntmps120
  go_wp2_with fail
  rw [HW0.out]
  go_quiet (fail)
  generalize nq = nq1
  go_wp2_with fail
  go_quiet (first | (go_at_call 160; exact quiet_of2 (HIDX.out _)))
  go_wp2_with fail
  have hp1 : PM W.heap.size w0 ((W0.drewN (nq1 + nq)).setCell ⟨g, 1, none⟩ (.int .i64 ((a : Int) + 2))) g s ((a + 2 : Nat) : Int) fault l st := by have := HP0.out.drewN (m := nq1 + nq) |>.setAt ((a : Int) + 2); simpa using this
  have hx1 : ((W0.drewN (nq1 + nq)).setCell ⟨g, 1, none⟩ (.int .i64 ((a : Int) + 2))).heap[W.heap.size]? = some (.cells #[.pointer (some ⟨g, 0, none⟩)] 139 (0, 0)) := (Below.heap_setCell _ ⟨g, 1, none⟩ _ _ (by simp; omega)).trans HN0.out; obtain ⟨W1, hW1⟩ : ∃ W1, (W0.drewN (nq1 + nq)).setCell ⟨g, 1, none⟩ (.int .i64 ((a : Int) + 2)) = W1 := ⟨_, rfl⟩; rw [hW1] at hp1 hx1 ⊢; have HP1 := Aside0.mk hp1; have HX1 := Aside0.mk hx1; have z0 : W1.cell? ⟨W.heap.size, 0, none⟩ = some (.pointer (some ⟨g, 0, none⟩)) := (q4 hx1 0).trans rfl; have hsz1 : W.heap.size < W1.heap.size := (Array.getElem?_eq_some_iff.1 hx1).1; clear hW1 hp1 hx1 x0 p0 p1 p2 pf1 hw4 hw5 e1 e39 e34
  cases r with
  | false =>
    refine wp_region_held_drew (S := fun W' => W'.cell? ⟨W.heap.size, 0, none⟩ = some (.pointer (some ⟨g, 0, none⟩))) (by kernel_rfl) ?_ (fun hHeld => ?_)
    · exact z0
    refine wpAnyH_take (i := 0) (oi := { dst := some 98, op := Go.Op.load 139 (Go.Operand.tmp 1), type := 139, pos := "term.go:513", after := #[], guard := none }) (v := ?_) rfl (by kernel_rfl) (by kernel_rfl) (by kernel_rfl) (fun _ _ _ h => h) (Or.inl ⟨by rfl, ?_⟩) (by assumption) ?_; rotate_left
    · (intro w hSw; (try dsimp only at hSw); go_simp; first | done | with_reducible rfl)
    (try simp only [Act.put, List.setIfInBounds_toArray, List.set_cons_zero, List.set_cons_succ])
    refine wpAnyH_take (i := 1) (oi := { dst := some 99, op := Go.Op.move (Go.Operand.tmp 4), type := 5, pos := "term.go:513", after := #[], guard := none }) (v := ?_) rfl (by kernel_rfl) (by kernel_rfl) (by kernel_rfl) (fun _ _ _ h => h) (Or.inl ⟨by rfl, ?_⟩) (by assumption) ?_; rotate_left
    · (intro w hSw; (try dsimp only at hSw); go_simp; first | done | with_reducible rfl)
    (try simp only [Act.put, List.setIfInBounds_toArray, List.set_cons_zero, List.set_cons_succ])
    refine wpAnyH_take (i := 4) (oi := { dst := some 102, op := Go.Op.load 139 (Go.Operand.tmp 1), type := 139, pos := "term.go:513", after := #[], guard := none }) (v := ?_) rfl (by kernel_rfl) (by kernel_rfl) (by kernel_rfl) (fun _ _ _ h => h) (Or.inl ⟨by rfl, ?_⟩) (by assumption) ?_; rotate_left
    · (intro w hSw; (try dsimp only at hSw); go_simp; first | done | with_reducible rfl)
    (try simp only [Act.put, List.setIfInBounds_toArray, List.set_cons_zero, List.set_cons_succ])
    refine wpAnyH_take (i := 7) (oi := { dst := some 105, op := Go.Op.move (Go.Operand.tmp 3), type := 3, pos := "term.go:513", after := #[], guard := none }) (v := ?_) rfl (by kernel_rfl) (by kernel_rfl) (by kernel_rfl) (fun _ _ _ h => h) (Or.inl ⟨by rfl, ?_⟩) (by assumption) ?_; rotate_left
    · (intro w hSw; (try dsimp only at hSw); go_simp; first | done | with_reducible rfl)
    (try simp only [Act.put, List.setIfInBounds_toArray, List.set_cons_zero, List.set_cons_succ])
    refine wpAnyH_ready (rs := [2]) (by kernel_rfl) (by simp) ?_; refine AllReadyH.cons (o := { dst := some 100, op := Go.Op.call { callee := Go.Callee.value (Go.Operand.func 160), args := #[Go.Operand.const (Go.Value.string { data := #[115, 116, 101] }), Go.Operand.tmp 99], argTypes := #[9, 5] }, type := 3, pos := "term.go:513", after := #[{ on := 1, ground := Go.Ground.data }], guard := none }) rfl (fun K hK => ?_) AllReadyH.nil; go_simp
    (go_at_call 160; refine (HIDX.out _).mono ?_; rintro e w' ⟨rfl, nd, rfl⟩)
    try go_wp2_with fail
    refine hK.out _ _ ?_ (fun hHeld => ?_)
    · (try dsimp only); (go_split_ands; first | exact z0 | exact HZ2.out | exact HZ3.out | (refine ⟨?_, ?_, ?_⟩ <;> assumption) | assumption)
    clear hK K
    (try simp only [Act.put, List.setIfInBounds_toArray, List.set_cons_zero, List.set_cons_succ])
    refine wpAnyH_take (i := 3) (oi := { dst := some 101, op := Go.Op.binOp Go.BinOp.add 3 (Go.Operand.const (Go.Value.int Go.IntKind.i64 5)) (Go.Operand.tmp 100) 3, type := 3, pos := "term.go:513", after := #[{ on := 2, ground := Go.Ground.data }], guard := none }) (v := ?_) rfl (by kernel_rfl) (by kernel_rfl) (by kernel_rfl) (fun _ _ _ h => h) (Or.inl ⟨by rfl, ?_⟩) (by assumption) ?_; rotate_left
    · (intro w hSw; (try dsimp only at hSw); go_simp; first | done | with_reducible rfl)
    (try simp only [Act.put, List.setIfInBounds_toArray, List.set_cons_zero, List.set_cons_succ])
    refine wpAnyH_ready (rs := [5]) (by kernel_rfl) (by simp) ?_; refine AllReadyH.cons (o := { dst := some 103, op := Go.Op.call { callee := Go.Callee.value (Go.Operand.func 119), args := #[Go.Operand.tmp 102, Go.Operand.const (Go.Value.int Go.IntKind.u8 3)], argTypes := #[139, 5] }, type := 9, pos := "term.go:513", after := #[{ on := 4, ground := Go.Ground.data }, { on := 2, ground := Go.Ground.chain }], guard := none }) rfl (fun K hK => ?_) AllReadyH.nil; go_simp
    (go_at_call 119; refine (HP1.out.drewN.longest 3 HS.out HLE.out).mono ?_; rintro e w2 ⟨rfl, hp, hg⟩; rw [← H2.out] at hp; have HP2 := Aside0.mk hp; have HX2 := Aside0.mk ((hg.block _ hsz1 (fun e => by injection e with e; omega)).trans HX1.out); have HZ2 := Aside0.mk (show w2.cell? ⟨W.heap.size, 0, none⟩ = some (.pointer (some ⟨g, 0, none⟩)) from (q4 HX2.out 0).trans rfl); clear hp hg; rw [← H2.out, ← HTX.out])
    try go_wp2_with fail
    refine hK.out _ _ ?_ (fun hHeld => ?_)
    · (try dsimp only); (go_split_ands; first | exact z0 | exact HZ2.out | exact HZ3.out | (refine ⟨?_, ?_, ?_⟩ <;> assumption) | assumption)
    clear hK K
    (try simp only [Act.put, List.setIfInBounds_toArray, List.set_cons_zero, List.set_cons_succ])
    refine wpAnyH_take (i := 6) (oi := { dst := some 104, op := Go.Op.build 42 #[(0, Go.Operand.tmp 101), (1, Go.Operand.tmp 103)], type := 42, pos := "term.go:513", after := #[{ on := 3, ground := Go.Ground.data }, { on := 5, ground := Go.Ground.data }], guard := none }) (v := ?_) rfl (by kernel_rfl) (by kernel_rfl) (by kernel_rfl) (fun _ _ _ h => h) (Or.inl ⟨by rfl, ?_⟩) (by assumption) ?_; rotate_left
    · (intro w hSw; (try dsimp only at hSw); go_simp; first | done | with_reducible rfl)
    (try simp only [Act.put, List.setIfInBounds_toArray, List.set_cons_zero, List.set_cons_succ])
    refine wpAnyH_ready (rs := [8]) (by kernel_rfl) (by simp) ?_; refine AllReadyH.cons (o := { dst := some 106, op := Go.Op.call { callee := Go.Callee.value (Go.Operand.func 159), args := #[Go.Operand.tmp 98, Go.Operand.tmp 104, Go.Operand.tmp 105], argTypes := #[139, 42, 3] }, type := 4, pos := "term.go:513", after := #[{ on := 0, ground := Go.Ground.data }, { on := 6, ground := Go.Ground.data }, { on := 7, ground := Go.Ground.data }, { on := 5, ground := Go.Ground.chain }], guard := none }) rfl (fun K hK => ?_) AllReadyH.nil; go_simp
    (go_at_call 159; refine (HP2.out.add (5 + (i : Int)) tx a kk false HR.out HN8.out).mono ?_; rintro e w3 ⟨rfl, hp, hkp⟩; have HP3 := Aside0.mk hp; have HX3 := Aside0.mk ((hkp _ (Nat.le_refl _) (Array.getElem?_eq_some_iff.1 HX2.out).1).trans HX2.out); have HZ3 := Aside0.mk (show w3.cell? ⟨W.heap.size, 0, none⟩ = some (.pointer (some ⟨g, 0, none⟩)) from (q4 HX3.out 0).trans rfl); clear hp hkp)
    try go_wp2_with fail
    refine hK.out _ _ ?_ (fun hHeld => ?_)
    · (try dsimp only); (go_split_ands; first | exact z0 | exact HZ2.out | exact HZ3.out | (refine ⟨?_, ?_, ?_⟩ <;> assumption) | assumption)
    clear hK K
    (try simp only [Act.put, List.setIfInBounds_toArray, List.set_cons_zero, List.set_cons_succ])
    refine wpAnyH_take (i := 9) (oi := { dst := some 107, op := Go.Op.move (Go.Operand.tmp 106), type := 4, pos := "term.go:513", after := #[{ on := 8, ground := Go.Ground.data }, { on := 8, ground := Go.Ground.chain }], guard := none }) (v := ?_) rfl (by kernel_rfl) (by kernel_rfl) (by kernel_rfl) (fun _ _ _ h => h) (Or.inl ⟨by rfl, ?_⟩) (by assumption) ?_; rotate_left
    · (intro w hSw; (try dsimp only at hSw); go_simp; first | done | with_reducible rfl)
    (try simp only [Act.put, List.setIfInBounds_toArray, List.set_cons_zero, List.set_cons_succ])
    refine wpAnyH_take (i := 10) (oi := { dst := some 108, op := Go.Op.load 139 (Go.Operand.tmp 1), type := 139, pos := "term.go:513", after := #[{ on := 9, ground := Go.Ground.guard }], guard := some (9, true) }) (v := undef) rfl (by kernel_rfl) (by kernel_rfl) (by kernel_rfl) (fun _ _ _ h => h) (Or.inr ⟨by rfl, rfl⟩) (by assumption) ?_
    (try simp only [Act.put, List.setIfInBounds_toArray, List.set_cons_zero, List.set_cons_succ])
    refine wpAnyH_take (i := 11) (oi := { dst := some 109, op := Go.Op.call { callee := Go.Callee.value (Go.Operand.func 161), args := #[Go.Operand.tmp 108], argTypes := #[139] }, type := 4, pos := "term.go:513", after := #[{ on := 10, ground := Go.Ground.data }, { on := 9, ground := Go.Ground.chain }, { on := 9, ground := Go.Ground.guard }], guard := some (9, true) }) (v := undef) rfl (by kernel_rfl) (by kernel_rfl) (by kernel_rfl) (fun _ _ _ h => h) (Or.inr ⟨by rfl, rfl⟩) (by assumption) ?_
    (try simp only [Act.put, List.setIfInBounds_toArray, List.set_cons_zero, List.set_cons_succ])
    refine wpAnyH_take (i := 12) (oi := { dst := some 110, op := Go.Op.pick (Go.Operand.tmp 107) (Go.Operand.tmp 109) (Go.Operand.const (Go.Value.bool false)), type := 4, pos := "term.go:513", after := #[{ on := 9, ground := Go.Ground.data }, { on := 11, ground := Go.Ground.data }], guard := none }) (v := ?_) rfl (by kernel_rfl) (by kernel_rfl) (by kernel_rfl) (fun _ _ _ h => h) (Or.inl ⟨by rfl, ?_⟩) (by assumption) ?_; rotate_left
    · (intro w hSw; (try dsimp only at hSw); go_simp; first | done | with_reducible rfl)
    (try simp only [Act.put, List.setIfInBounds_toArray, List.set_cons_zero, List.set_cons_succ])
    refine wpAnyH_take (i := 13) (oi := { dst := some 2, op := Go.Op.assign (Go.Operand.tmp 110), type := 4, pos := "term.go:513", after := #[{ on := 12, ground := Go.Ground.data }, { on := 11, ground := Go.Ground.chain }, { on := 0, ground := Go.Ground.phase }, { on := 1, ground := Go.Ground.phase }, { on := 2, ground := Go.Ground.phase }, { on := 3, ground := Go.Ground.phase }, { on := 4, ground := Go.Ground.phase }, { on := 5, ground := Go.Ground.phase }, { on := 6, ground := Go.Ground.phase }, { on := 7, ground := Go.Ground.phase }, { on := 8, ground := Go.Ground.phase }, { on := 9, ground := Go.Ground.phase }, { on := 10, ground := Go.Ground.phase }, { on := 11, ground := Go.Ground.phase }, { on := 12, ground := Go.Ground.phase }], guard := none }) (v := ?_) rfl (by kernel_rfl) (by kernel_rfl) (by kernel_rfl) (fun _ _ _ h => h) (Or.inl ⟨by rfl, ?_⟩) (by assumption) ?_; rotate_left
    · (intro w hSw; (try dsimp only at hSw); go_simp; first | done | with_reducible rfl)
    (try simp only [Act.put, List.setIfInBounds_toArray, List.set_cons_zero, List.set_cons_succ])
    refine wpAnyH_done (by kernel_rfl) ?_ _
    go_wp2
    go_ret; rw [HRR.out]; exact ⟨by simp, by have := HP3.out; simpa using this⟩
  | true =>
    cases on with
    | true =>
      go_region_held3 (fun W' => W'.cell? ⟨W.heap.size, 0, none⟩ = some (.pointer (some ⟨g, 0, none⟩)))
        (first
          | exact z0
          | exact HZ4.out
          | exact HZ3.out
          | exact HZ2.out
          | (go_split_ands; exact ⟨by assumption, by assumption⟩)
          | fail)
        (first
          | (go_at_call 160; refine (HIDX.out _).mono ?_; rintro e w' ⟨rfl, nd, rfl⟩)
          | (go_at_call 119; refine (HP1.out.drewN.longest 3 HS.out HLE.out).mono ?_; rintro e w2 ⟨rfl, hp, hg⟩; rw [← H2.out] at hp; have HP2 := Aside0.mk hp; have HX2 := Aside0.mk ((hg.block _ hsz1 (fun e => by injection e with e; omega)).trans HX1.out); have HZ2 := Aside0.mk (show w2.cell? ⟨W.heap.size, 0, none⟩ = some (.pointer (some ⟨g, 0, none⟩)) from (q4 HX2.out 0).trans rfl); clear hp hg; rw [← H2.out, ← HTX.out])
          | (go_at_call 159; refine (HP2.out.add (5 + (i : Int)) tx a kk true HR.out HN8.out).mono ?_; rintro e w3 ⟨rfl, hp, hkp⟩; have HP3 := Aside0.mk hp; have HX3 := Aside0.mk ((hkp _ (Nat.le_refl _) (Array.getElem?_eq_some_iff.1 HX2.out).1).trans HX2.out); have HZ3 := Aside0.mk (show w3.cell? ⟨W.heap.size, 0, none⟩ = some (.pointer (some ⟨g, 0, none⟩)) from (q4 HX3.out 0).trans rfl); clear hp hkp)
          | (go_at_call 161; have hap := HP3.out.apart HS.out; rw [← HON.out] at hap; refine hap.mono ?_; clear hap; rintro e w4 ⟨rfl, hp, hg⟩; have HP4 := Aside0.mk hp; have HZ4 := Aside0.mk (show w4.cell? ⟨W.heap.size, 0, none⟩ = some (.pointer (some ⟨g, 0, none⟩)) from (q4 ((hg.block _ (Array.getElem?_eq_some_iff.1 HX3.out).1 (fun e => by injection e with e; omega)).trans HX3.out) 0).trans rfl); clear hp hg)
          | fail)
      go_wp2
      go_ret; rw [HRR.out]; exact ⟨by simp, by have := HP4.out; simpa using this⟩
    | false =>
      go_region_held3 (fun W' => W'.cell? ⟨W.heap.size, 0, none⟩ = some (.pointer (some ⟨g, 0, none⟩)))
        (first
          | exact z0
          | exact HZ4.out
          | exact HZ3.out
          | exact HZ2.out
          | (go_split_ands; exact ⟨by assumption, by assumption⟩)
          | fail)
        (first
          | (go_at_call 160; refine (HIDX.out _).mono ?_; rintro e w' ⟨rfl, nd, rfl⟩)
          | (go_at_call 119; refine (HP1.out.drewN.longest 3 HS.out HLE.out).mono ?_; rintro e w2 ⟨rfl, hp, hg⟩; rw [← H2.out] at hp; have HP2 := Aside0.mk hp; have HX2 := Aside0.mk ((hg.block _ hsz1 (fun e => by injection e with e; omega)).trans HX1.out); have HZ2 := Aside0.mk (show w2.cell? ⟨W.heap.size, 0, none⟩ = some (.pointer (some ⟨g, 0, none⟩)) from (q4 HX2.out 0).trans rfl); clear hp hg; rw [← H2.out, ← HTX.out])
          | (go_at_call 159; refine (HP2.out.add (5 + (i : Int)) tx a kk true HR.out HN8.out).mono ?_; rintro e w3 ⟨rfl, hp, hkp⟩; have HP3 := Aside0.mk hp; have HX3 := Aside0.mk ((hkp _ (Nat.le_refl _) (Array.getElem?_eq_some_iff.1 HX2.out).1).trans HX2.out); have HZ3 := Aside0.mk (show w3.cell? ⟨W.heap.size, 0, none⟩ = some (.pointer (some ⟨g, 0, none⟩)) from (q4 HX3.out 0).trans rfl); clear hp hkp)
          | (go_at_call 161; have hap := HP3.out.apart HS.out; rw [← HON.out] at hap; refine hap.mono ?_; clear hap; rintro e w4 ⟨rfl, hp, hg⟩; have HP4 := Aside0.mk hp; have HZ4 := Aside0.mk (show w4.cell? ⟨W.heap.size, 0, none⟩ = some (.pointer (some ⟨g, 0, none⟩)) from (q4 ((hg.block _ (Array.getElem?_eq_some_iff.1 HX3.out).1 (fun e => by injection e with e; omega)).trans HX3.out) 0).trans rfl); clear hp hg)
          | fail)
      go_wp2
      go_ret; rw [HRR.out]; exact ⟨by simp, by have := HP4.out; simpa using this⟩
end Go.Proofs.Ytjhjhhibbmligaa.TE
end
