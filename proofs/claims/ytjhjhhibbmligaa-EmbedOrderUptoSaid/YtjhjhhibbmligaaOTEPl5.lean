/- term.Put. -/
import Derived.Test.YtjhjhhibbmligaaOTEBa
import Derived.Test.YtjhjhhibbmligaaOTEPa
import Derived.OwnWalk
import Derived.Deep.LoopGhost
import Derived.Test.YtjhjhhibbmligaaOTEPl3
import Derived.Test.YtjhjhhibbmligaaOTENd
import Derived.Test.YtjhjhhibbmligaaOWMore
import Derived.Lib.AppendZerosOnto
import Derived.WalkSpells
section
namespace Go.Proofs.Ytjhjhhibbmligaa.TE
open Go.RowKit Go.Shelf Go.Proofs.YtjhjhhibbmligaaW.PrintWords Go.Proofs.YtjhjhhibbmligaaW.PrintLast Go.Proofs.YtjhjhhibbmligaaW.PrintMore Go.Proofs.Ytjhjhhibbmligaa.Evs
set_option linter.unusedVariables false
set_option linter.unusedSimpArgs false
def OT (W : World) : Nat → List Tm → Value → Nat → Nat → Prop
  | 0, l, v, _, _ => l = [] ∧ ∃ A c, v = .slice A 0 c
  | n + 1, l, v, lo, hi => (l = [] ∧ ∃ A c, v = .slice A 0 c) ∨ ∃ (b c : Nat) (cs : Array Value) (f : Nat → Nat), v = .slice (some ⟨b, 0, none⟩) l.length c ∧ l.length ≤ c ∧ lo ≤ b ∧ b < f 0 ∧ f l.length ≤ hi ∧ (∀ j, j < l.length → f j ≤ f (j + 1)) ∧
      W.heap[b]? = some (.cells cs 42 (0, 0)) ∧ ∀ j x, l[j]? = some x → ∃ u, cs[j * 3]? = some (.int .i64 x.f0) ∧ cs[j * 3 + 1]? = some (.string x.f1) ∧ cs[j * 3 + 2]? = some u ∧ OT W n x.f2 u (f j) (f (j + 1))
theorem mono_le {f : Nat → Nat} {n : Nat} (h : ∀ j, j < n → f j ≤ f (j + 1)) : ∀ j k, j ≤ k → k ≤ n → f j ≤ f k := by
  intro j k hjk
  induction k with
  | zero => intro _; obtain rfl : j = 0 := by omega
            exact Nat.le_refl _
  | succ k ih =>
    intro hk
    rcases Nat.lt_or_ge j (k + 1) with hj | hj
    · exact Nat.le_trans (ih (by omega) (by omega)) (h k (by omega))
    · obtain rfl : j = k + 1 := by omega
      exact Nat.le_refl _
theorem idx_lt {α : Type} {l : List α} {j : Nat} {x : α} (h : l[j]? = some x) : j < l.length := (List.getElem?_eq_some_iff.1 h).1
theorem OT.frame {W W' : World} : ∀ (n : Nat) (l : List Tm) (v : Value) (lo hi : Nat), OT W n l v lo hi → (∀ k, lo ≤ k → k < hi → W'.heap[k]? = W.heap[k]?) → OT W' n l v lo hi
  | 0, l, v, lo, hi, h, _ => h
  | n + 1, l, v, lo, hi, h, hk => by
    rcases h with h | ⟨b, c, cs, f, h1, h2, h3, h4, h5, h6, h7, h8⟩
    · exact .inl h
    · have hm := mono_le h6; have hb := hm 0 l.length (Nat.zero_le _) (Nat.le_refl _); refine .inr ⟨b, c, cs, f, h1, h2, h3, h4, h5, h6, (hk b h3 (by omega)).trans h7, fun j x hj => ?_⟩; obtain ⟨u, a1, a2, a3, a4⟩ := h8 j x hj; have hl := idx_lt hj; have e1 := hm 0 j (Nat.zero_le _) (by omega); have e2 := hm (j + 1) l.length (by omega) (Nat.le_refl _); exact ⟨u, a1, a2, a3, OT.frame n _ _ _ _ a4 (fun k g1 g2 => hk k (by omega) (by omega))⟩
theorem OT.frame' {W W' : World} (n : Nat) (l : List Tm) (v : Value) (lo hi : Nat) (h : OT W n l v lo hi) (hk : ∀ k, lo ≤ k → k < hi → ∀ o, W.heap[k]? = some o → W'.heap[k]? = some o) : OT W' n l v lo hi := by
  induction n generalizing l v lo hi with
  | zero => exact h
  | succ n ih =>
    rcases h with h | ⟨b, c, cs, f, h1, h2, h3, h4, h5, h6, h7, h8⟩
    · exact .inl h
    · have hm := mono_le h6; have hb := hm 0 l.length (Nat.zero_le _) (Nat.le_refl _); refine .inr ⟨b, c, cs, f, h1, h2, h3, h4, h5, h6, hk b h3 (by omega) _ h7, fun j x hj => ?_⟩; obtain ⟨u, a1, a2, a3, a4⟩ := h8 j x hj; have hl := idx_lt hj; have e1 := hm 0 j (Nat.zero_le _) (by omega); have e2 := hm (j + 1) l.length (by omega) (Nat.le_refl _); exact ⟨u, a1, a2, a3, ih _ _ _ _ a4 (fun k g1 g2 => hk k (by omega) (by omega))⟩
theorem OT.mono {W : World} : ∀ {n : Nat} {l : List Tm} {v : Value} {lo hi lo' hi' : Nat}, OT W n l v lo hi → lo' ≤ lo → hi ≤ hi' → OT W n l v lo' hi'
  | 0, l, v, lo, hi, lo', hi', h, _, _ => h
  | n + 1, l, v, lo, hi, lo', hi', h, h1, h2 => by
    rcases h with h | ⟨b, c, cs, f, a1, a2, a3, a4, a5, a6, a7, a8⟩
    · exact .inl h
    · exact .inr ⟨b, c, cs, f, a1, a2, by omega, a4, by omega, a6, a7, a8⟩
theorem OT.fuel {W : World} : ∀ {n m : Nat} {l : List Tm} {v : Value} {lo hi : Nat}, OT W n l v lo hi → n ≤ m → OT W m l v lo hi
  | 0, 0, l, v, lo, hi, h, _ => h
  | 0, m + 1, l, v, lo, hi, h, _ => .inl h
  | n + 1, 0, l, v, lo, hi, h, hm => absurd hm (by omega)
  | n + 1, m + 1, l, v, lo, hi, h, hm => by
    rcases h with h | ⟨b, c, cs, f, a1, a2, a3, a4, a5, a6, a7, a8⟩
    · exact .inl h
    · refine .inr ⟨b, c, cs, f, a1, a2, a3, a4, a5, a6, a7, fun j x hj => ?_⟩; obtain ⟨u, b1, b2, b3, b4⟩ := a8 j x hj; exact ⟨u, b1, b2, b3, OT.fuel b4 (by omega)⟩
theorem OT.form {W : World} {n : Nat} {l : List Tm} {v : Value} {lo hi : Nat} (h : OT W n l v lo hi) : ∃ A c, v = .slice A l.length c := by
  cases n with
  | zero => obtain ⟨rfl, A, c, rfl⟩ := h; exact ⟨A, c, rfl⟩
  | succ n =>
    rcases h with ⟨rfl, A, c, rfl⟩ | ⟨b, c, cs, f, a1, _⟩
    · exact ⟨A, c, rfl⟩
    · exact ⟨_, _, a1⟩
theorem bk_kid {l : List Tm} {x : Tm} (h : x ∈ l) {B : Nat} (hb : bk42s l ≤ B) : bk42s x.f2 ≤ B ∧ x.f1.size ≤ B := by
  have := bk_mem h
  omega
theorem bk_len' {l : List Tm} {B : Nat} (hb : bk42s l ≤ B) : l.length ≤ B := by
  have := bk_len l
  omega
theorem OT.reads {W : World} : ∀ {n : Nat} {l : List Tm} {v : Value} {lo hi : Nat}, OT W n l v lo hi → bk42s l ≤ 1048576 → ∃ A c, v = .slice A l.length c ∧ l.length ≤ c ∧ Kd.C k42 W A l.length l
  | 0, l, v, lo, hi, h, _ => by
    obtain ⟨rfl, A, c, rfl⟩ := h; exact ⟨A, c, rfl, Nat.zero_le _, rfl, by decide, fun hp => absurd hp (by decide)⟩
  | n + 1, l, v, lo, hi, h, hb => by
    rcases h with ⟨rfl, A, c, rfl⟩ | ⟨b, c, cs, f, a1, a2, a3, a4, a5, a6, a7, a8⟩
    · exact ⟨A, c, rfl, Nat.zero_le _, rfl, by decide, fun hp => absurd hp (by decide)⟩
    · refine ⟨some ⟨b, 0, none⟩, c, a1, a2, rfl, by have := bk_len' hb; omega, fun hp => ⟨_, rfl, fun j x hj => ?_⟩⟩; obtain ⟨u, b1, b2, b3, b4⟩ := a8 j x hj; have hmem : x ∈ l := List.mem_of_getElem? hj; obtain ⟨A2, c2, rfl, l2, g2⟩ := OT.reads b4 (bk_kid hmem hb).1; refine ⟨[.int .i64 x.f0, .string x.f1, .slice A2 x.f2.length c2], rfl, k42_mk W x l2 g2, fun i u hu => ?_⟩; rw [add_plain]; refine (q4 a7 _).trans ?_
      match i, hu with
      | 0, hu => exact b1.trans hu
      | 1, hu => exact b2.trans hu
      | 2, hu => exact b3.trans hu
theorem inner_of {R : Tm → List Value → Prop} {w : World} {ad : Addr} : ∀ (l : List Tm) (o : Nat), (∀ j p, l[j]? = some p → ∃ c, c.length = 3 ∧ R p c ∧ ∀ i u, c[i]? = some u → w.cell? (ad.add ((o + j) * 3 + i)) = some u) →
    ∃ cs, Reps R 3 l cs ∧ ∀ i u, cs[i]? = some u → w.cell? (ad.add (o * 3 + i)) = some u
  | [], o, _ => ⟨[], Reps.none _ _, fun i u h => by simp at h⟩
  | x :: r, o, h => by
    obtain ⟨c, hc, hR, hcell⟩ := h 0 x rfl
    obtain ⟨cs, hr, hcs⟩ := inner_of r (o + 1) (fun j p hj => by
      obtain ⟨c', h1, h2, h3⟩ := h (j + 1) p (by simpa using hj); refine ⟨c', h1, h2, fun i u hu => ?_⟩; have := h3 i u hu
      rwa [show o + 1 + j = o + (j + 1) by omega])
    refine ⟨c ++ cs, Reps.front hR hc hr rfl, fun i u hu => ?_⟩
    rcases Nat.lt_or_ge i c.length with hi | hi
    · rw [List.getElem?_append_left hi] at hu; have := hcell i u hu
      simpa using this
    · rw [List.getElem?_append_right hi] at hu; have := hcs (i - c.length) u hu
      rwa [show (o + 1) * 3 + (i - c.length) = o * 3 + i by omega] at this
def Row0 (w0 : World) (l : List Tm) (cs : Array Value) (q : Nat) : Prop :=
  ∀ j x, q ≤ j → l[j]? = some x → ∃ A2 c2, cs[j * 3]? = some (.int .i64 x.f0) ∧ cs[j * 3 + 1]? = some (.string x.f1) ∧ cs[j * 3 + 2]? = some (.slice A2 x.f2.length c2) ∧ x.f2.length ≤ c2 ∧ Kd.C k42 w0 A2 x.f2.length x.f2
def Cloned (w0 W W' : World) (l : List Tm) (v : Value) : Prop :=
  (l = [] ∧ ∃ A c, v = .slice A 0 c) ∨ ∃ b c cs, v = .slice (some ⟨b, 0, none⟩) l.length c ∧ l.length ≤ c ∧ W.heap.size ≤ b ∧ W'.heap[b]? = some (.cells cs 42 (0, 0)) ∧ Row0 w0 l cs 0
theorem cloned_of {w0 W W' : World} {l : List Tm} {v : Value} {inner : List Value} (h : W'.ownsRow W.heap.size 42 3 v l.length inner) (hr : Reps (k42.K w0) 3 l inner) : Cloned w0 W W' l v := by
  rcases h.2 with ⟨rfl, h0⟩ | ⟨b, c, cs, rfl, hb, hh, hc, _, _, ht⟩
  · exact .inl ⟨List.length_eq_zero_iff.1 h0, none, 0, rfl⟩
  · refine .inr ⟨b, c, cs, rfl, hc, hb, hh, fun j x _ hj => ?_⟩; have hl := idx_lt hj; obtain ⟨A2, c2, he, l2, g2⟩ := k42_open (hr.2 j x hj)
    have key : ∀ i, i < 3 → cs[j * 3 + i]? = ([.int .i64 x.f0, .string x.f1, .slice A2 x.f2.length c2] : List Value)[i]? := by
      intro i hi; rw [← he, List.getElem?_take, if_pos hi, List.getElem?_drop, ← ht, List.getElem?_take, if_pos (by omega)]; simp
    exact ⟨A2, c2, key 0 (by decide), key 1 (by decide), key 2 (by decide), l2, g2⟩
theorem info_term' : (Try.prog.info? 42).map (fun i => (i.zero, i.size, i.bytes)) = some (some (.agg #[.int .i64 0, .string ⟨#[]⟩, .slice none 0 0]), 3, 48) := by kernel_rfl
set_option maxRecDepth 100000 in
set_option maxHeartbeats 4000000 in
theorem Clone.calls (w0 : World) (A : Option Addr) (c : Nat) (l : List Tm) (W : World) (hC : Kd.C k42 w0 A l.length l) (hc : l.length ≤ c) (hB : Below w0.heap.size w0 W) (h8 : l.length ≤ 1048576) :
    Calls Try.prog 133 #[.slice A l.length c] W fun e W' => ∃ v, e = .returned v ∧ Cloned w0 W W' l v ∧ Below W.heap.size W W' := by
  have heq := fun (W : World) (a : Option Addr) (n c : Nat) => Lib.run_eql_slice_nil (P := Try.prog) W 22 42 a n c 0 0 Try.underlying22
  cases A with
  | none =>
    have hn : l = [] := by
      rcases l with _ | ⟨x, l⟩
      · rfl
      · obtain ⟨ad, he, _⟩ := hC.2.2 (by simp); cases he
    subst hn
    go_enter Try.func133, Try.ntmps133
    go_wp2_with fail
    go_ret; exact ⟨_, rfl, .inl ⟨rfl, _, _, rfl⟩, Below.refl _ _⟩
  | some ad =>
    obtain ⟨inner, hr, hcell⟩ : ∃ cs, Reps (k42.K w0) 3 l cs ∧ ∀ i u, cs[i]? = some u → w0.cell? (ad.add i) = some u := by
      rcases Nat.eq_zero_or_pos l.length with h0 | h0
      · have : l = [] := List.length_eq_zero_iff.1 h0; subst this; exact ⟨[], Reps.none _ _, fun i u h => by simp at h⟩
      · obtain ⟨ad', he, hh⟩ := hC.2.2 h0
        obtain rfl : ad = ad' := by injection he
        obtain ⟨cs, h1, h2⟩ := inner_of (R := k42.K w0) l 0 (fun j p hj => by rw [show 0 + j = j by omega]; exact hh j p hj); exact ⟨cs, h1, fun i u hu => by simpa using h2 i u hu⟩
    have hown := World.ownsRow_made (e := 42) (size := 3) (base := W.heap.size) W #[] 0 (Nat.le_refl _) (by decide) rfl; have hb0 : Below W.heap.size W (W.alloc (.cells #[] 42)) := (Below.refl _ _).alloc (Nat.le_refl _) _
    have hcell' : ∀ i u, inner[i]? = some u → (W.alloc (.cells #[] 42)).cell? (ad.add i) = some u := fun i u hu => pw_cell_below (q12 hB hb0) (hcell i u hu)
    have hone : ∀ u ∈ inner, u.oneCell' = true := Kd.reps_one hr (by decide) (fun p c h => k42.K_one h); have HO := Aside0.mk hown; have HB0 := Aside0.mk hb0; have HCELL := Aside0.mk hcell'; have HONE := Aside0.mk hone; have HR := Aside0.mk hr; have H8 := Aside0.mk h8; clear hC hB h8 hr hcell hown hb0 hcell' hone; obtain ⟨i0, hi, hz0, hz1, hz2⟩ := info_parts info_term'
    go_enter Try.func133, Try.ntmps133
    go_wp2_with (at_builtin; refine wpList_append_own _ rfl _ _ 22 rfl W.heap.size 42 i0 (.agg #[.int .i64 0, .string ⟨#[]⟩, .slice none 0 0]) 3 48 Try.underlying22 hi hz0 hz1 hz2 rfl (by decide) _ _ _ rfl HO.out ad l.length c inner rfl HR.out.1 HCELL.out HONE.out (by have := H8.out; simp only [maxLen]; omega) (by have := H8.out; omega) (by simp) ?_; intro v5 w5 hown5 hgrow5 _; have HO5 := Aside0.mk hown5; have HB5 := Aside0.mk (HB0.out.grown hgrow5 HB0.out.size (fun k hk => (HO.out.lt k hk).1)); clear hown5 hgrow5)
    go_ret; exact ⟨_, rfl, cloned_of (by simpa using HO5.out) HR.out, HB5.out⟩
theorem below_elder {B : Nat} {W W' : World} (h : Below B W W') (b i : Nat) (v : Value) (hb : B ≤ b) : Below B W (W'.setCell ⟨b, i, none⟩ v) :=
  ⟨h.os, h.tape, h.output, by simpa [World.setCell] using h.size, fun k hk => (Below.heap_setCell W' ⟨b, i, none⟩ v k (fun e => by have : k = b := e; omega)).trans (h.block k hk)⟩
structure Cp (w0 wr : World) (k : Nat) (l : List Tm) (b q : Nat) (cs : Array Value) (f : Nat → Nat) : Prop where
  row : wr.heap[b]? = some (.cells cs 42 (0, 0))
  low : b < f 0
  top : f q = wr.heap.size
  mono : ∀ j, j < q → f j ≤ f (j + 1)
  done : ∀ j x, j < q → l[j]? = some x → ∃ u, cs[j * 3]? = some (.int .i64 x.f0) ∧ cs[j * 3 + 1]? = some (.string x.f1) ∧ cs[j * 3 + 2]? = some u ∧ OT wr k x.f2 u (f j) (f (j + 1))
  todo : Row0 w0 l cs q
theorem set_same {cs : Array Value} {i j : Nat} {u v : Value} (h : cs[i]? = some u) (hij : j = i) : (cs.setIfInBounds j v)[i]? = some v := by
  subst hij; have hl := (Array.getElem?_eq_some_iff.1 h).1; simp [hl]
theorem set_other {cs : Array Value} {i j : Nat} {v : Value} (hij : j ≠ i) : (cs.setIfInBounds j v)[i]? = cs[i]? := by
  simp [Array.getElem?_setIfInBounds, hij]
theorem Cp.next {w0 wr w2 : World} {k : Nat} {l : List Tm} {b q : Nat} {cs : Array Value} {f : Nat → Nat} {x : Tm} {u : Value} (h : Cp w0 wr k l b q cs f) (hx : l[q]? = some x) (hb : Below wr.heap.size wr w2) (ho : OT w2 k x.f2 u wr.heap.size w2.heap.size) :
    Cp w0 (w2.setCell ⟨b, q * 3 + 2, none⟩ u) k l b (q + 1) (cs.setIfInBounds (q * 3 + 2) u) (fun j => if j ≤ q then f j else w2.heap.size) := by
  have hbl := blk_lt h.row; have hrow := (hb.block b hbl).trans h.row; have hm := mono_le h.mono
  have hsz : (w2.setCell ⟨b, q * 3 + 2, none⟩ u).heap.size = w2.heap.size := by simp [World.setCell]
  have hfar : ∀ i, i ≠ b → (w2.setCell ⟨b, q * 3 + 2, none⟩ u).heap[i]? = w2.heap[i]? := fun i hi => Below.heap_setCell w2 ⟨b, q * 3 + 2, none⟩ u i hi
  have hf0 : b < wr.heap.size := hbl; obtain ⟨A2, c2, t1, t2, t3, _, _⟩ := h.todo q x (Nat.le_refl _) hx; refine ⟨blk_set hrow _ _, by simpa using h.low, by rw [hsz]; exact if_neg (by omega), fun j hj => ?_, fun j y hj hy => ?_, fun j y hj hy => ?_⟩
  · rcases Nat.lt_or_ge j q with h1 | h1
    · rw [if_pos (by omega), if_pos (by omega)]; exact h.mono j h1
    · obtain rfl : j = q := by omega
      rw [if_pos (Nat.le_refl _), if_neg (by omega), h.top]; exact hb.size
  · rcases Nat.lt_or_ge j q with h1 | h1
    · obtain ⟨v, a1, a2, a3, a4⟩ := h.done j y h1 hy; refine ⟨v, (set_other (by omega)).trans a1, (set_other (by omega)).trans a2, (set_other (by omega)).trans a3, ?_⟩; rw [if_pos (by omega), if_pos (by omega)]; refine OT.frame k _ _ _ _ a4 (fun i g1 g2 => ?_); have e1 := hm 0 j (Nat.zero_le _) (by omega); have e2 := hm (j + 1) q (by omega) (Nat.le_refl _); have e3 := h.top; have e4 := h.low; exact (hfar i (by omega)).trans (hb.block i (by omega))
    · obtain rfl : j = q := by omega
      obtain rfl : x = y := by rw [hx] at hy; injection hy
      refine ⟨u, (set_other (by omega)).trans t1, (set_other (by omega)).trans t2, set_same t3 rfl, ?_⟩; rw [if_pos (Nat.le_refl _), if_neg (by omega), h.top]; exact OT.frame k _ _ _ _ ho (fun i g1 g2 => hfar i (by omega))
  · obtain ⟨A3, c3, s1, s2, s3, s4, s5⟩ := h.todo j y (by omega) hy; exact ⟨A3, c3, (set_other (by omega)).trans s1, (set_other (by omega)).trans s2, (set_other (by omega)).trans s3, s4, s5⟩
theorem Cp.whole {w0 wr : World} {k c : Nat} {l : List Tm} {b lo : Nat} {cs : Array Value} {f : Nat → Nat} (h : Cp w0 wr k l b l.length cs f) (hc : l.length ≤ c) (hlo : lo ≤ b) : OT wr (k + 1) l (.slice (some ⟨b, 0, none⟩) l.length c) lo wr.heap.size :=
  .inr ⟨b, c, cs, f, rfl, hc, hlo, h.low, by rw [h.top]; exact Nat.le_refl _, h.mono, h.row, fun j x hj => h.done j x (idx_lt hj) hj⟩
set_option maxRecDepth 100000 in
set_option maxHeartbeats 4000000 in
theorem Copy.calls (w0 : World) : ∀ (k : Nat) (A : Option Addr) (c : Nat) (l : List Tm) (W : World), SizeOf.sizeOf l ≤ k → Kd.C k42 w0 A l.length l → l.length ≤ c → Below w0.heap.size w0 W → bk42s l ≤ 1048576 →
    Calls Try.prog 80 #[.slice A l.length c] W fun e W' => ∃ v, e = .returned v ∧ OT W' k l v W.heap.size W'.heap.size ∧ Below W.heap.size W W' := by
  intro k
  induction k with
  | zero => intro A c l W hk; cases l <;> simp at hk
  | succ k ih =>
    intro A c l W hk hC hc hB hbk; have hlen := bk_len' hbk; have hcl := Clone.calls w0 A c l W hC hc hB hlen; have HCL := Aside0.mk hcl; have HB := Aside0.mk hB; have HK := Aside0.mk hk; have HBK := Aside0.mk hbk; have HLEN := Aside0.mk hlen; have IH := Aside0.mk ih; clear hcl hC hc hB hk hbk ih hlen
    go_enter Try.func80, Try.ntmps80
    go_wp2_with fail
    refine HCL.out.mono ?_; rintro e w1 ⟨v, rfl, hcd, hb1⟩; have HB1 := Aside0.mk hb1; clear hb1
    rcases hcd with ⟨rfl, A1, c1, rfl⟩ | ⟨b, c1, cs1, rfl, hc1, hb, hrow1, htodo⟩
    · go_wp2_with fail
      go_loopw [9] (fun i wr => i = .int .i64 ((0 : Nat) : Int) ∧ Aside0 (Below W.heap.size W wr)) (fun i wr => 0)
      case atStart => exact ⟨rfl, HB1⟩
      case round =>
        obtain ⟨rfl, HBR⟩ := hrel
        go_wp2_with fail
        go_ret; exact ⟨_, rfl, .inl ⟨rfl, _, _, rfl⟩, HBR.out⟩
    · have h0 : Cp w0 w1 k l b 0 cs1 (fun _ => w1.heap.size) := ⟨hrow1, blk_lt hrow1, rfl, fun _ _ => Nat.le_refl _, fun j x hj => absurd hj (by omega), htodo⟩; have H0 := Aside0.mk h0; have HBB := Aside0.mk hb; have HC1 := Aside0.mk hc1; clear h0 hb hc1 hrow1 htodo
      go_wp2_with fail
      go_loopw [9] (fun i wr => ∃ (q : Nat) (cs : Array Value) (f : Nat → Nat), i = .int .i64 q ∧ q ≤ l.length ∧ Aside0 (Cp w0 wr k l b q cs f) ∧ Aside0 (Below W.heap.size W wr)) (fun i wr => l.length - (intOf i).toNat)
      case atStart => exact ⟨0, cs1, _, rfl, Nat.zero_le _, H0, HB1⟩
      case round =>
        obtain ⟨q, cs, f, rfl, hq, HCP, HBR⟩ := hrel; have hq0 : (0 : Int) ≤ (q : Int) := Int.natCast_nonneg _
        by_cases hlt : q < l.length
        · have e1 : decide ((q : Int) < (l.length : Int)) = true := decide_eq_true (by omega)
          have hqi : (q : Int) < (l.length : Int) := by omega
          obtain ⟨x, hx⟩ : ∃ x, l[q]? = some x := ⟨_, List.getElem?_eq_getElem hlt⟩; have HX := Aside0.mk hx; have hmem : x ∈ l := List.mem_of_getElem? hx; have HMEM := Aside0.mk hmem; obtain ⟨A2, c2, t1, t2, t3, t4, t5⟩ := HCP.out.todo q x (Nat.le_refl _) hx; have T4 := Aside0.mk t4; have T5 := Aside0.mk t5; have x2 : wr.cell? ⟨b, q * 3 + 2, none⟩ = some (.slice A2 x.f2.length c2) := (q4 HCP.out.row _).trans t3; have T3 := Aside0.mk t3; have hbl : b < wr.heap.size := blk_lt HCP.out.row
          have hw : IntKind.i64.wrap ((q : Int) + 1) = (q : Int) + 1 := by have := HLEN.out; rw [i64_w]; rw [wrap64_id (by omega) (by omega)]
          have hsz : SizeOf.sizeOf x.f2 ≤ k := by
            have h1 := List.sizeOf_lt_of_mem hmem
            have h2 : SizeOf.sizeOf x.f2 < SizeOf.sizeOf x := by cases x; simp; omega
            have := HK.out
            omega
          have HSZ := Aside0.mk hsz; clear hx hmem t1 t2 t3 t4 t5 hsz
          go_wp2_with fail
          refine (IH.out A2 c2 x.f2 wr HSZ.out T5.out T4.out (q12 HB.out HBR.out) (bk_kid HMEM.out HBK.out).1).mono ?_; rintro e w2 ⟨v2, rfl, ho2, hb2⟩; obtain ⟨A3, c3, rfl⟩ := ho2.form; have y2 : w2.cell? ⟨b, q * 3 + 2, none⟩ = some (.slice A2 x.f2.length c2) := (q4 ((hb2.block b hbl).trans HCP.out.row) _).trans T3.out; have yf : w2.frozen? ⟨b, q * 3 + 2, none⟩ = false := q11 ((hb2.block b hbl).trans HCP.out.row) _; have HCP2 := Aside0.mk (HCP.out.next HX.out hb2 ho2); have HBR2 := Aside0.mk (below_elder (q12 HBR.out hb2) b (q * 3 + 2) (.slice A3 x.f2.length c3) HBB.out); clear hb2 ho2 x2
          go_wp2_with fail
          go_roundw
          case rel => exact ⟨q + 1, _, _, by go_num, by omega, HCP2, HBR2⟩
          case measure => simp [intOf]; omega
        · have e1 : decide ((q : Int) < (l.length : Int)) = false := decide_eq_false (by omega); have e1' : decide (q < l.length) = false := decide_eq_false hlt
          have hqe : q = l.length := by omega
          have HQE := Aside0.mk hqe; clear hqe hlt
          go_wp2_with fail
          go_ret; have hqe := HQE.out; have hcp := HCP.out; rw [hqe] at hcp; exact ⟨_, rfl, hcp.whole HC1.out HBB.out, HBR.out⟩
end Go.Proofs.Ytjhjhhibbmligaa.TE
end
section
namespace Go.Proofs.Ytjhjhhibbmligaa.TE
open Go.RowKit Go.Shelf Go.Proofs.YtjhjhhibbmligaaW.PrintWords Go.Proofs.YtjhjhhibbmligaaW.PrintLast Go.Proofs.YtjhjhhibbmligaaW.PrintMore Go.Proofs.Ytjhjhhibbmligaa.Evs
set_option linter.unusedVariables false
set_option linter.unusedSimpArgs false
def putG : List Int → List Tm → List Tm → List Tm
  | [], l, _ => l
  | i :: r, l, y => if r = [] then (l.take i.toNat ++ y) ++ l.drop (i.toNat + 1) else (l.take i.toNat ++ [(⟨(rd_T42 l i).f0, (rd_T42 l i).f1, putG r (rd_T42 l i).f2 y⟩ : Tm)]) ++ l.drop (i.toNat + 1)
def putR (p : List Int) (l y : List Tm) : List Tm × Bool :=
  match rA p l with
  | none => ([], false)
  | some _ => (putG p l y, true)
theorem rA_cons {i : Int} {r : List Int} {l : List Tm} {x : Tm} (h : rA (i :: r) l = some x) : 0 ≤ i ∧ i.toNat < l.length ∧ (r ≠ [] → rA r (rd_T42 l i).f2 = some x) := by
  rw [rA] at h
  by_cases c : 0 ≤ i ∧ i.toNat < l.length
  · rw [dif_pos c] at h; refine ⟨c.1, c.2, fun hr => ?_⟩; rw [if_neg hr] at h
    have : rd_T42 l i = l[i.toNat]'c.2 := by simp [rd_T42, List.getD_eq_getElem?_getD, List.getElem?_eq_getElem c.2]
    rw [this]; exact h
  · rw [dif_neg c] at h; cases h
theorem bks_app : ∀ a b : List Tm, bk42s (a ++ b) = bk42s a + bk42s b
  | [], b => by simp [bk42s]
  | x :: r, b => by have := bks_app r b; simp only [List.cons_append, bk42s, this]; omega
theorem bks_split (l : List Tm) (i : Nat) (h : i < l.length) : bk42s l = bk42s (l.take i) + bk42 (l[i]'h) + bk42s (l.drop (i + 1)) := by
  have h1 : l = l.take i ++ l[i] :: l.drop (i + 1) := by rw [← List.drop_eq_getElem_cons h, List.take_append_drop]
  have h2 := congrArg bk42s h1; rw [bks_app] at h2; simp only [bk42s] at h2
  omega
theorem rd_in {l : List Tm} {i : Int} (h0 : i.toNat < l.length) : rd_T42 l i = l[i.toNat]'h0 := by simp [rd_T42, List.getD_eq_getElem?_getD, List.getElem?_eq_getElem h0]
theorem info_int' : (Try.prog.info? 3).map (fun i => (i.zero, i.size, i.bytes)) = some (some (.int .i64 0), 1, 8) := by kernel_rfl
end Go.Proofs.Ytjhjhhibbmligaa.TE
end
section
namespace Go.Proofs.Ytjhjhhibbmligaa.TE
open Go.RowKit Go.Shelf Go.Proofs.YtjhjhhibbmligaaW.PrintWords Go.Proofs.YtjhjhhibbmligaaW.PrintLast Go.Proofs.YtjhjhhibbmligaaW.PrintMore
set_option linter.unusedVariables false
set_option linter.unusedSimpArgs false
inductive E : List Tm → List Tm → Prop
  | nil (us : List Tm) : E [] us
  | skip {ts us : List Tm} (u : Tm) : E ts us → E ts (u :: us)
  | cons {t u : Tm} {ts us : List Tm} : sameC t u = true → E t.f2 u.f2 → E ts us → E (t :: ts) (u :: us)
  | dive {t u : Tm} {ts us : List Tm} : E [t] u.f2 → E ts us → E (t :: ts) (u :: us)
theorem embA_eq (t : Tm) : ∀ us, embA t us = embL [t] us
  | [] => by rw [embA, embL_nil]; rfl
  | u :: r => by
    rw [embA, embL, embA_eq t r]
    cases h : emb t u with
    | true => rw [if_pos rfl, embL]; rfl
    | false => rw [if_neg (by decide)]; rfl
theorem emb_eq (t u : Tm) : emb t u = ((sameC t u && embL t.f2 u.f2) || embL [t] u.f2) := by rw [emb, cpl, embA_eq]
theorem E_drop : ∀ {us : List Tm} {t : Tm} {ts : List Tm}, E (t :: ts) us → E ts us := by
  intro us
  induction us with
  | nil => intro t ts h; cases h
  | cons u us ih =>
    intro t ts h
    cases h with
    | skip _ h => exact .skip u (ih h)
    | cons h1 h2 h3 => exact .skip u h3
    | dive h1 h2 => exact .skip u h2
theorem E_tail {us : List Tm} {u t : Tm} {ts : List Tm} (h : E (t :: ts) (u :: us)) : E ts us := by
  cases h with
  | skip _ h => exact E_drop h
  | cons h1 h2 h3 => exact h3
  | dive h1 h2 => exact h2
theorem embL_iff : ∀ (k : Nat) (ts us : List Tm), SizeOf.sizeOf ts + SizeOf.sizeOf us ≤ k → (embL ts us = true ↔ E ts us) := by
  intro k
  induction k with
  | zero => intro ts us h; cases ts <;> cases us <;> simp at h
  | succ k ih =>
    intro ts us h
    cases ts with
    | nil => rw [embL]; exact ⟨fun _ => .nil _, fun _ => rfl⟩
    | cons t ts =>
      cases us with
      | nil => rw [embL_nil]; exact ⟨fun h => by simp at h, fun h => by cases h⟩
      | cons u us =>
        have h1 : SizeOf.sizeOf t.f2 < SizeOf.sizeOf t := by cases t; simp; omega
        have h2 : SizeOf.sizeOf u.f2 < SizeOf.sizeOf u := by cases u; simp; omega
        simp only [List.cons.sizeOf_spec] at h; have i1 := ih t.f2 u.f2 (by omega); have i2 := ih [t] u.f2 (by simp only [List.cons.sizeOf_spec, List.nil.sizeOf_spec]; omega); have i3 := ih ts us (by omega); have i4 := ih (t :: ts) us (by simp only [List.cons.sizeOf_spec]; omega)
        have he : emb t u = true ↔ (sameC t u = true ∧ E t.f2 u.f2) ∨ E [t] u.f2 := by
          rw [emb_eq, Bool.or_eq_true, Bool.and_eq_true, i1, i2]
        rw [embL]
        by_cases c : emb t u = true
        · rw [if_pos c, i3]; refine ⟨fun h => ?_, E_tail⟩
          rcases he.1 c with ⟨a, b⟩ | a
          · exact .cons a b h
          · exact .dive a h
        · rw [if_neg c, i4]; refine ⟨.skip u, fun h => ?_⟩
          cases h with
          | skip _ h => exact h
          | cons a b d => exact absurd (he.2 (.inl ⟨a, b⟩)) c
          | dive a d => exact absurd (he.2 (.inr a)) c
theorem embL_E {ts us : List Tm} : embL ts us = true ↔ E ts us := embL_iff _ ts us (Nat.le_refl _)
theorem sameC_refl (t : Tm) : sameC t t = true := by unfold sameC; simp
theorem sameC_symm {t u : Tm} (h : sameC t u = true) : sameC u t = true := by
  unfold sameC at *; simp only [Bool.and_eq_true, decide_eq_true_eq] at *; exact ⟨h.1.symm, h.2.symm⟩
theorem sameC_trans {s t u : Tm} (h : sameC s t = true) (h' : sameC t u = true) : sameC s u = true := by
  unfold sameC at *; simp only [Bool.and_eq_true, decide_eq_true_eq] at *; exact ⟨h.1.trans h'.1, h.2.trans h'.2⟩
theorem E_refl : ∀ (k : Nat) (l : List Tm), SizeOf.sizeOf l ≤ k → E l l := by
  intro k
  induction k with
  | zero => intro l h; cases l <;> simp at h
  | succ k ih =>
    intro l h
    cases l with
    | nil => exact .nil _
    | cons t ts =>
      have h1 : SizeOf.sizeOf t.f2 < SizeOf.sizeOf t := by cases t; simp; omega
      simp only [List.cons.sizeOf_spec] at h; exact .cons (sameC_refl t) (ih t.f2 (by omega)) (ih ts (by omega))
theorem E_self (l : List Tm) : E l l := E_refl _ l (Nat.le_refl _)
theorem E_trans {b c : List Tm} (h : E b c) : ∀ a, E a b → E a c := by
  induction h with
  | nil us => intro a h; cases h; exact .nil _
  | skip u h ih => intro a h'; exact .skip u (ih a h')
  | cons h1 h2 h3 ih1 ih2 =>
    intro a h
    cases h with
    | nil => exact .nil _
    | skip _ h => exact .skip _ (ih2 _ h)
    | cons a1 a2 a3 => exact .cons (sameC_trans a1 h1) (ih1 _ a2) (ih2 _ a3)
    | dive a1 a2 => exact .dive (ih1 _ a1) (ih2 _ a2)
  | dive h1 h2 ih1 ih2 =>
    intro a h
    cases h with
    | nil => exact .nil _
    | skip _ h => exact .skip _ (ih2 _ h)
    | cons a1 a2 a3 => exact .dive (ih1 _ (.cons a1 a2 (.nil _))) (ih2 _ a3)
    | dive a1 a2 => exact .dive (ih1 _ (.dive a1 (.nil _))) (ih2 _ a2)
theorem flat_one (t : Tm) : (flat [t]).length = 1 + (flat t.f2).length := by rw [flat_cons, flat_nil]; simp; omega
theorem flat_co (t : Tm) (r : List Tm) : (flat (t :: r)).length = 1 + (flat t.f2).length + (flat r).length := by rw [flat_cons]; simp; omega
theorem E_size {a b : List Tm} (h : E a b) : (flat a).length ≤ (flat b).length := by
  induction h with
  | nil us => rw [flat_nil]; exact Nat.zero_le _
  | skip u h ih => rw [flat_co]; omega
  | cons h1 h2 h3 ih1 ih2 => rw [flat_co, flat_co]; omega
  | dive h1 h2 ih1 ih2 => rw [flat_one] at ih1; rw [flat_co, flat_co]; omega
theorem flat_none {l : List Tm} (h : (flat l).length = 0) : l = [] := by
  cases l with
  | nil => rfl
  | cons t r => rw [flat_co] at h; omega
theorem E_anti {a b : List Tm} (h : E a b) : (flat a).length = (flat b).length → E b a := by
  induction h with
  | nil us => intro h; rw [flat_nil] at h; rw [flat_none h.symm]; exact .nil _
  | skip u h ih => intro he; have := E_size h; rw [flat_co] at he; omega
  | cons h1 h2 h3 ih1 ih2 =>
    intro he; have s1 := E_size h2; have s2 := E_size h3; rw [flat_co, flat_co] at he; exact .cons (sameC_symm h1) (ih1 (by omega)) (ih2 (by omega))
  | dive h1 h2 ih1 ih2 =>
    intro he; have s1 := E_size h1; have s2 := E_size h2; rw [flat_one] at s1; rw [flat_co, flat_co] at he
    omega
theorem E_skips {c d : List Tm} (h : E c d) : ∀ us, E c (us ++ d)
  | [] => h
  | u :: us => .skip u (E_skips h us)
theorem E_app {a b c d : List Tm} (h : E a b) (h' : E c d) : E (a ++ c) (b ++ d) := by
  induction h with
  | nil us => exact E_skips h' us
  | skip u h ih => exact .skip u ih
  | cons h1 h2 h3 ih1 ih2 => exact .cons h1 h2 ih2
  | dive h1 h2 ih1 ih2 => exact .dive h1 ih2
theorem E_mid {y : List Tm} {t : Tm} (h : E y [t]) (p r : List Tm) : E ((p ++ y) ++ r) (p ++ t :: r) := by
  have h1 := E_app (E_app (E_self p) h) (E_self r); rw [List.append_assoc p [t] r] at h1; exact h1
theorem list_mid {l : List Tm} {n : Nat} (h : n < l.length) : l.take n ++ l[n] :: l.drop (n + 1) = l := by rw [← List.drop_eq_getElem_cons h, List.take_append_drop]
theorem E_put : ∀ (p : List Int) (l y : List Tm) (x : Tm), rA p l = some x → E y [x] → E (putG p l y) l
  | [], l, y, x, h, _ => by rw [rA] at h; cases h
  | i :: r, l, y, x, h, hy => by
    obtain ⟨h0, h1, h2⟩ := rA_cons h; rw [putG]
    by_cases hr : r = []
    · rw [if_pos hr]; rw [rA, dif_pos ⟨h0, h1⟩, if_pos hr] at h
      injection h with h
      subst h; have h3 := E_mid hy (l.take i.toNat) (l.drop (i.toNat + 1)); rw [list_mid h1] at h3; exact h3
    · rw [if_neg hr]; have ih := E_put r (rd_T42 l i).f2 y x (h2 hr) hy; rw [rd_in h1] at ih ⊢; obtain ⟨z, hz⟩ : ∃ z, z = l[i.toNat]'h1 := ⟨_, rfl⟩; rw [← hz] at ih ⊢; have hs : E [(⟨z.f0, z.f1, putG r z.f2 y⟩ : Tm)] [z] := .cons (by unfold sameC; simp) ih (.nil _); have h3 := E_mid hs (l.take i.toNat) (l.drop (i.toNat + 1)); rw [hz, list_mid h1] at h3; rw [hz]; exact h3
theorem or_refl (a : List Tm) : embL a a = true := embL_E.2 (E_self a)
theorem or_trans {a b c : List Tm} (h1 : embL a b = true) (h2 : embL b c = true) : embL a c = true := embL_E.2 (E_trans (embL_E.1 h2) a (embL_E.1 h1))
theorem or_size {a b : List Tm} (h : (flat b).length < (flat a).length) : embL a b = false := by
  cases hh : embL a b with
  | false => rfl
  | true => have := E_size (embL_E.1 hh); omega
theorem or_anti {a b : List Tm} (h : (flat a).length = (flat b).length) : embL a b = embL b a := by
  rw [Bool.eq_iff_iff, embL_E, embL_E]; exact ⟨fun h1 => E_anti h1 h, fun h1 => E_anti h1 h.symm⟩
theorem or_less {p : List Int} {l : List Tm} {x : Tm} (h : rA p l = some x) : embL (putG p l []) l = true := embL_E.2 (E_put p l [] x h (.nil _))
theorem or_dug {p : List Int} {l : List Tm} {x : Tm} (h : rA p l = some x) (h1 : x.f2.length = 1) : embL (putG p l x.f2) l = true := by
  obtain ⟨s, hs⟩ : ∃ s, x.f2 = [s] := by
    match hh : x.f2, h1 with
    | [s], _ => exact ⟨s, rfl⟩
  refine embL_E.2 (E_put p l x.f2 x h ?_); rw [hs]; exact .dive (by rw [hs]; exact E_self _) (.nil _)
theorem or_len {a b : List Tm} (h : embL a b = true) : (flat a).length ≤ (flat b).length := E_size (embL_E.1 h)
end Go.Proofs.Ytjhjhhibbmligaa.TE
end
section
namespace Go.Proofs.Ytjhjhhibbmligaa.TE
open Go.RowKit Go.Shelf Go.Proofs.YtjhjhhibbmligaaW.PrintWords Go.Proofs.YtjhjhhibbmligaaW.PrintLast Go.Proofs.YtjhjhhibbmligaaW.PrintMore Go.Proofs.Ytjhjhhibbmligaa.Evs
set_option linter.unusedVariables false
set_option linter.unusedSimpArgs false
set_option maxRecDepth 100000 in
set_option maxHeartbeats 4000000 in
theorem Flat_1.calls (A : Option Addr) (c : Nat) (l : List Tm) (w : World) (hC : Kd.C k42 w A l.length l) (hc : l.length ≤ c) (hb : bk42s l ≤ 1099511627776) :
    Calls Try.prog 88 #[.slice A l.length c] w fun e w' => (∃ b, e = .returned (.bool b)) ∧ Below w.heap.size w w' := by
  obtain ⟨k1, hk1⟩ := (size_ev hb).get; obtain ⟨N, hN⟩ : ∃ N : Int, N = ((flat l).length : Int) := ⟨_, rfl⟩; obtain ⟨D, hD⟩ : ∃ D : Int, D = dpL 0 l := ⟨_, rfl⟩; rw [← hN, ← hD] at hk1; have H := Aside0.mk (term_Size.calls k1 A c l N D w hC hc hk1); clear hC hc hb hk1 hN hD
  go_enter Try.func88, Try.ntmps88
  go_wp2_with fail
  refine H.out.mono ?_; rintro e w2 ⟨rfl, hb2⟩; have HB2 := Aside0.mk hb2; clear hb2
  go_wp2_with fail
  go_ret; exact ⟨⟨_, rfl⟩, HB2.out⟩
set_option maxRecDepth 100000 in
set_option maxHeartbeats 4000000 in
theorem IndexFlat.calls (A : Option Addr) (n c : Nat) (ls : List (List Tm)) (W : World) (hC : Kd.C (Kd.slice 42 k42) W A n ls) (hn : ls.length = n) (hc : n ≤ c) (hb : ∀ x ∈ ls, bk42s x ≤ 1099511627776) :
    Calls Try.prog 134 #[.slice A n c, .func (.func 88) #[] #[]] W fun e W' => (∃ v : Int, e = .returned (.int .i64 v)) ∧ Below W.heap.size W W' := by
  have hmax := Kd.C_max hC; have HC := Aside0.mk hC; have HN := Aside0.mk hn; have HBK := Aside0.mk hb; have hn0 : (0 : Int) ≤ (n : Int) := Int.natCast_nonneg _; clear hC hn hb
  go_enter Try.func134, Try.ntmps134
  go_wp2_with fail
  go_loopw [8] (fun i wr => ∃ (q : Nat), i = .int .i64 q ∧ q ≤ n ∧ Aside0 (Below W.heap.size W wr)) (fun i wr => n - (intOf i).toNat)
  case atStart => exact ⟨0, rfl, Nat.zero_le _, ⟨Below.refl _ _⟩⟩
  case round =>
    obtain ⟨q, rfl, hq, HBr⟩ := hrel
    by_cases hlt : q < n
    · have hql : q < ls.length := by rw [HN.out]; exact hlt
      obtain ⟨ad, rfl, hce⟩ := (HC.out.2.2) (by omega); obtain ⟨cs, hcl, ⟨A2, c2, rfl, hc2, hr2⟩, hcell⟩ := hce q ls[q] (List.getElem?_eq_getElem hql); have hmem : ls[q] ∈ ls := List.getElem_mem hql; obtain ⟨x, hx⟩ : ∃ x, ls[q] = x := ⟨_, rfl⟩; rw [hx] at hc2 hr2 hcell hmem
      have hx0 : wr.cell? (ad.add q) = some (.slice A2 x.length c2) := by
        have h0 := hcell 0 _ rfl; rw [show q * (Kd.slice 42 k42).sz + 0 = q by simp [Kd.slice]] at h0; exact (HBr.out.cell (World.block_lt_of_cell? W _ h0)).trans h0
      have HCALL := Aside0.mk (Flat_1.calls A2 c2 x wr (Kd.C_below hr2 HBr.out) hc2 (HBK.out x hmem))
      have hlb : decide ((q : Int) < (n : Int)) = true := by simp; omega
      have hq0 : (0 : Int) ≤ (q : Int) := Int.natCast_nonneg _
      have hqn : (q : Int) < (n : Int) := by omega
      clear hce hcell hx hr2 hmem
      go_wp2_with fail
      refine HCALL.out.mono ?_; clear HCALL; rintro e W1 ⟨⟨b, rfl⟩, hb1⟩; have HB1 := Aside0.mk (q12 HBr.out hb1); clear hb1
      cases b with
      | false =>
        go_wp2_with fail
        go_roundw
        case rel => exact ⟨q + 1, by go_num, by omega, HB1⟩
        case measure => simp [intOf]; omega
      | true =>
        go_wp2_with fail
        go_ret; exact ⟨⟨_, rfl⟩, HB1.out⟩
    · obtain rfl : q = n := by omega
      have hlb : decide ((q : Int) < (q : Int)) = false := by simp
      go_wp2_with fail
      go_ret; exact ⟨⟨_, rfl⟩, HBr.out⟩
set_option maxRecDepth 100000 in
set_option maxHeartbeats 4000000 in
theorem ContainsFlat.calls (A : Option Addr) (n c : Nat) (ls : List (List Tm)) (W : World) (hC : Kd.C (Kd.slice 42 k42) W A n ls) (hn : ls.length = n) (hc : n ≤ c) (hb : ∀ x ∈ ls, bk42s x ≤ 1099511627776) :
    Calls Try.prog 83 #[.slice A n c, .func (.func 88) #[] #[]] W fun e W' => (∃ b, e = .returned (.bool b)) ∧ Below W.heap.size W W' := by
  have H := Aside0.mk (IndexFlat.calls A n c ls W hC hn hc hb); clear hC hn hb
  go_enter Try.func83, Try.ntmps83
  go_wp2_with fail
  refine H.out.mono ?_; clear H; rintro e W1 ⟨⟨v, rfl⟩, hg⟩; have HG := Aside0.mk hg; clear hg
  go_wp2_with fail
  go_ret; exact ⟨⟨_, rfl⟩, HG.out⟩
set_option maxRecDepth 100000 in
set_option maxHeartbeats 4000000 in
theorem Flat.calls (most : Int) (A : Option Addr) (n c : Nat) (ls : List (List Tm)) (w : World) (hC : Kd.C (Kd.slice 42 k42) w A n ls) (hn : ls.length = n) (hc : n ≤ c) (hb : ∀ x ∈ ls, bk42s x ≤ 1099511627776) :
    Calls Try.prog 22 #[.int .i64 most, .slice A n c] w fun e w' => (∃ b, e = .returned (.bool b)) ∧ Below w.heap.size w w' := by
  have H1 := Aside0.mk (Small.calls most A n c ls w hC hn hc); have H2 := Aside0.mk (fun W hC => ContainsFlat.calls A n c ls W hC hn hc hb); have HC := Aside0.mk hC; obtain ⟨s, hs⟩ : ∃ s, s = (cntAll most ls).1 := ⟨_, rfl⟩; rw [← hs] at H1; clear hC hn hb hs
  go_enter Try.func22, Try.ntmps22
  go_wp2_with fail
  refine H1.out.mono ?_; rintro e W1 ⟨rfl, hb1⟩; have HB1 := Aside0.mk hb1; clear hb1 H1
  cases s with
  | false =>
    go_wp2_with fail
    go_ret; exact ⟨⟨_, rfl⟩, HB1.out⟩
  | true =>
    go_wp2_with fail
    refine (H2.out _ (Kd.C_below HC.out HB1.out)).mono ?_; rintro e W2 ⟨⟨b, rfl⟩, hb2⟩; have HB2 := Aside0.mk (q12 HB1.out hb2); clear hb2
    go_wp2_with fail
    go_ret; exact ⟨⟨_, rfl⟩, HB2.out⟩
end Go.Proofs.Ytjhjhhibbmligaa.TE
end
section
namespace Go.Proofs.Ytjhjhhibbmligaa.TE
open Go.RowKit Go.Shelf Go.Proofs.YtjhjhhibbmligaaW.PrintWords Go.Proofs.YtjhjhhibbmligaaW.PrintLast Go.Proofs.YtjhjhhibbmligaaW.PrintMore Go.Proofs.Ytjhjhhibbmligaa.Evs
set_option linter.unusedVariables false
set_option linter.unusedSimpArgs false
theorem zcells (m : Nat) : (Builtin.zeroCells (Value.agg #[.int .i64 0, .string ⟨#[]⟩, .slice none 0 0]).cells m).size = m * 3 := by
  simp [Builtin.zeroCells, Value.cells]
set_option maxRecDepth 100000 in
set_option maxHeartbeats 4000000 in
theorem grow.calls (n : Nat) (w : World) (hn : n * 48 ≤ 140737488355328) :
    Calls Try.prog 147 #[.slice none 0 0, .int .i64 n] w fun e w' => ∃ v, e = .returned v ∧ Kd.N k42 42 w' w.heap.size (fun k => w.heap.size ≤ k) v [] ∧ Below w.heap.size w w' := by
  have h1 : ¬ ((n : Int) < 0) := by omega
  by_cases h0 : n = 0
  · subst h0
    go_enter Try.func147, Try.ntmps147
    go_wp2
    go_ret; exact ⟨_, rfl, Kd.N_nil _ _ _ _ _, Below.refl _ _⟩
  · obtain ⟨i0, hi, hz0, hz1, hz2⟩ := info_parts info_term'
    have hrz : ∀ ty, (Builtin.append_ #[22, 3] ty #[.slice none 0 0, .int .i64 (n : Int)]).run Try.prog w = .ok (.slice (some ⟨w.heap.size, 0, none⟩) n (grownCap w n 0 42)) (w.drew.alloc (.cells ((#[] : Array Value) ++ Builtin.zeroCells (.agg #[.int .i64 0, .string ⟨#[]⟩, .slice none 0 0] : Value).cells n ++ Builtin.zeroCells (.agg #[.int .i64 0, .string ⟨#[]⟩, .slice none 0 0] : Value).cells (grownCap w n 0 42 - n)) 42)) := fun ty => by
      have h := Lib.run_append_grow_zeros w 22 3 ty 42 i0 (.agg #[.int .i64 0, .string ⟨#[]⟩, .slice none 0 0]) .i64 .i64 Try.underlying22 Try.underlying3 hi hz0 none 0 0 [] (run_firstCells_none w.drew i0.size 0 0 0) n (by omega) (by omega) (by omega) (by omega) (by rw [hz2]; omega)
        (by rw [Nat.zero_add]; exact growslice_fits (by omega) (by rw [hz2]; omega))
      rw [Nat.zero_add] at h; exact h
    have hG := grownCap_ge w n 0 42; have hG63 := grownCap_le_maxLen w n 0 42 (by unfold maxLen; omega); obtain ⟨G, hGe⟩ : ∃ G, G = grownCap w n 0 42 := ⟨_, rfl⟩; rw [← hGe] at hrz hG hG63; have hG' : G ≤ 9223372036854775807 := hG63; clear hGe; have HG := Aside0.mk hG63; clear hG63
    go_enter Try.func147, Try.ntmps147
    go_wp2_with (at_builtin; refine Lib.wpList_append_run _ rfl _ _ _ _ rfl _ _ rfl rfl _ _ (hrz _) ?_)
    go_ret; refine ⟨_, rfl, Kd.R_N ⟨fun k hk => (by simp [Value.ownBlock] at hk; omega), [], ⟨rfl, .inr ⟨w.heap.size, G, _, rfl, Nat.le_refl _, World.alloc_heap_new w.drew _, Nat.zero_le _, HG.out, ?_, rfl⟩⟩, Reps.none _ _⟩, ((Below.refl _ w).drew).alloc (by simp) _⟩; rw [Array.size_append]; show (Builtin.zeroCells (Value.agg #[.int .i64 0, .string ⟨#[]⟩, .slice none 0 0]).cells n).size + (Builtin.zeroCells (Value.agg #[.int .i64 0, .string ⟨#[]⟩, .slice none 0 0]).cells (G - n)).size = G * 3; rw [zcells, zcells]
    omega
def lens {α : Type} : List (List α) → Nat
  | [] => 0
  | x :: r => x.length + lens r
theorem lens_append {α : Type} : ∀ a b : List (List α), lens (a ++ b) = lens a + lens b
  | [], b => by simp [lens]
  | x :: r, b => by simp only [List.cons_append, lens, lens_append r b]; omega
theorem lens_snoc {α : Type} (ls : List (List α)) (k : Nat) (h : k < ls.length) : lens (ls.take (k + 1)) = lens (ls.take k) + ls[k].length := by
  rw [List.take_succ_eq_append_getElem h, lens_append]; simp [lens]
theorem lens_take {α : Type} (ls : List (List α)) (k : Nat) : lens (ls.take k) ≤ lens ls := by
  have := lens_append (ls.take k) (ls.drop k); rw [List.take_append_drop] at this; omega
theorem flat_snoc {α : Type} (ls : List (List α)) (k : Nat) (h : k < ls.length) : (ls.take (k + 1)).flatten = (ls.take k).flatten ++ ls[k] := by
  rw [List.take_succ_eq_append_getElem h, List.flatten_append]; simp
theorem flat_lens {α : Type} : ∀ ls : List (List α), ls.flatten.length = lens ls
  | [] => rfl
  | x :: r => by simp only [List.flatten_cons, List.length_append, lens, flat_lens r]
theorem F_at {α : Type} {d : Kd α} {e : Nat} {w : World} {ok : Nat → Prop} {A : Option Addr} {ls : List (List α)} (h : Kd.F (Kd.slice e d) w ok A ls.length ls) (k : Nat) (hk : k < ls.length) :
    ∃ ad A2 c2, A = some ad ∧ w.cell? (ad.add k) = some (.slice A2 (ls[k]).length c2) ∧ (ls[k]).length ≤ c2 ∧ Kd.F d w ok A2 (ls[k]).length ls[k] := by
  obtain ⟨ad, c, rfl, hl, hK, hc, _⟩ := Kd.F_get h ls[k] (k : Int) (by omega) (by omega)
  have hg : ls.getD (k : Int).toNat ls[k] = ls[k] := by simp [List.getD_eq_getElem?_getD, List.getElem?_eq_getElem hk]
  rw [hg] at hK; obtain ⟨A2, c2, rfl, h1, h2⟩ := Kd.FK_slice_open hK; have := hc 0 _ rfl; rw [Int.toNat_natCast] at this; exact ⟨ad, A2, c2, rfl, by simpa [Kd.slice] using this, h1, h2⟩
set_option maxRecDepth 100000 in
set_option maxHeartbeats 4000000 in
theorem concat.calls (A : Option Addr) (c : Nat) (ls : List (List Tm)) (w : World) (P : Nat → Prop) (hC : Kd.F (Kd.slice 42 k42) w P A ls.length ls) (hb : lens ls * 48 ≤ 140737488355328) :
    Calls Try.prog 110 #[.slice A ls.length c] w fun e w' => ∃ v, e = .returned v ∧ Kd.N k42 42 w' w.heap.size (fun k => P k ∨ w.heap.size ≤ k) v ls.flatten ∧ Below w.heap.size w w' := by
  have hm := Kd.F_max hC; have HC := Aside0.mk hC; clear hC
  go_enter Try.func110, Try.ntmps110
  go_wp2
  go_loop [3, 11] (fun s i => ∃ k : Nat, k ≤ ls.length ∧ i = .int .i64 k ∧ s = .int .i64 (lens (ls.take k))) (fun _ i => ls.length - (intOf i).toNat)
  case atStart => exact ⟨0, Nat.zero_le _, rfl, rfl⟩
  case round =>
    obtain ⟨k, hk, rfl, rfl⟩ := hrel; have hlt := lens_take ls k
    by_cases hlk : k < ls.length
    · obtain ⟨ad, A2, c2, rfl, hcell, hl2, hC2⟩ := F_at HC.out k hlk; have hsn := Aside0.mk (lens_snoc ls k hlk); have hlt2 := lens_take ls (k + 1); rw [hsn.out] at hlt2; obtain ⟨m, hm2⟩ : ∃ m, (ls[k]).length = m := ⟨_, rfl⟩; rw [hm2] at hcell hlt2; have HM := Aside0.mk hm2; clear hm2 hC2 hl2
      go_wp2
      go_round
      case rel => exact ⟨k + 1, by omega, by go_num, by rw [hsn.out, HM.out]; go_num⟩
      case measure => simp [intOf]; omega
    · obtain rfl : k = ls.length := by omega
      rw [List.take_length] at *
      go_wp2_with (go_at_call 147; with_reducible refine (grow.calls (lens ls) _ hb).mono ?_; rintro e w1 ⟨v, rfl, hR, hB⟩; have HR : Aside0 (Kd.N k42 42 w1 w.heap.size (fun k => P k ∨ w.heap.size ≤ k) v ([] : List Tm)) := ⟨Kd.N_mono hR (fun k hk => .inr hk)⟩; have HB := Aside0.mk hB; clear hR hB)
      have hn0 : ∀ (b : Value), b = v → True := fun _ _ => trivial
      go_loopw [6, 27] (fun u i wr => ∃ k : Nat, k ≤ ls.length ∧ i = .int .i64 k ∧ Aside0 (Kd.N k42 42 wr w.heap.size (fun k => P k ∨ w.heap.size ≤ k) u (ls.take k).flatten) ∧ Aside0 (Below w.heap.size w wr)) (fun _ i _ => ls.length - (intOf i).toNat)
      case atStart => exact ⟨0, Nat.zero_le _, rfl, HR, HB⟩
      case round =>
        clear HR HB hn0; obtain ⟨k, hk, rfl, HR, HB⟩ := hrel; have hlt := lens_take ls k
        by_cases hlk : k < ls.length
        · obtain ⟨ad, A2, c2, rfl, hcell, hl2, hC2⟩ := F_at HC.out k hlk; replace hcell := pw_cell_below HB.out hcell; have HC2 := Aside0.mk (Kd.F_old hC2 HB.out); have hsn := Aside0.mk (lens_snoc ls k hlk); have hfs := Aside0.mk (flat_snoc ls k hlk); have hlt2 := lens_take ls (k + 1); rw [hsn.out] at hlt2; have hfl := flat_lens (ls.take k); obtain ⟨m, hm2⟩ : ∃ m, (ls[k]).length = m := ⟨_, rfl⟩; rw [hm2] at hcell hlt2 hl2 HC2; have HL : Aside0 (((ls.take k).flatten.length + m) * 48 ≤ 140737488355328) := ⟨by rw [hfl]; omega⟩; have HOK : Aside0 (∀ v : Value, Kd.N k42 42 wr w.heap.size (fun k => P k ∨ w.heap.size ≤ k) v (ls.take k).flatten → ∀ j, (P j ∧ j < w.heap.size) → (P j ∨ w.heap.size ≤ j) ∧ some j ≠ v.ownBlock) := ⟨fun v hN j hj => ⟨.inl hj.1, fun e => by have := Kd.N_base hN j e.symm; have := hj.2; omega⟩⟩; clear hm2 hC2 hfl hlt2 hlt
          go_wp2_with ((with_reducible refine gate_builtin (b := .append) (xs := #[.tmp 31, .tmp 32]) rfl ?_); at_builtin; refine Kd.N_append_rows k42 (w0 := w) w.heap.size rfl (.tmp 31) (.tmp 32) 22 42 (.agg #[.int .i64 0, .string ⟨#[]⟩, .slice none 0 0]) 48 rfl Try.underlying22 info_term' rfl (by decide) (by decide) _ ((ls.take k).flatten) (ls[k]) A2 m c2 (fun k => P k ∨ w.heap.size ≤ k) (fun k => P k ∧ k < w.heap.size) rfl rfl HR.out HC2.out (HOK.out _ HR.out) (fun k h => .inr (Nat.le_trans HB.out.size h)) HB.out HB.out.size HL.out ?_; intro v1 w2 ho hb2 hg hat; have HO := Aside0.mk ho; have HB2 := Aside0.mk hb2; clear ho hb2 hg hat)
          go_roundw
          case rel => exact ⟨k + 1, by omega, by go_num, by rw [hfs.out]; exact HO, HB2⟩
          case measure => simp [intOf]; omega
        · obtain rfl : k = ls.length := by omega
          rw [List.take_length] at HR
          go_wp2
          go_ret; exact ⟨_, rfl, HR.out, HB.out⟩
end Go.Proofs.Ytjhjhhibbmligaa.TE
end
section
namespace Go.Proofs.Ytjhjhhibbmligaa.TE
open Go.RowKit Go.Shelf Go.Proofs.YtjhjhhibbmligaaW.PrintWords Go.Proofs.YtjhjhhibbmligaaW.PrintLast Go.Proofs.YtjhjhhibbmligaaW.PrintMore Go.Proofs.Ytjhjhhibbmligaa.Evs
set_option linter.unusedVariables false
set_option linter.unusedSimpArgs false
def sub : List Int → List Tm → List Tm
  | [], l => l
  | i :: r, l => sub r (rd_T42 l i).f2
def plug : List Int → List Tm → List Tm → List Tm
  | [], _, y => y
  | i :: r, l, y => l.set i.toNat ⟨(rd_T42 l i).f0, (rd_T42 l i).f1, plug r (rd_T42 l i).f2 y⟩
theorem sub_snoc : ∀ (q : List Int) (i : Int) (l : List Tm), sub (q ++ [i]) l = (rd_T42 (sub q l) i).f2
  | [], i, l => rfl
  | j :: q, i, l => sub_snoc q i _
theorem plug_snoc : ∀ (q : List Int) (i : Int) (l y : List Tm), plug (q ++ [i]) l y = plug q l ((sub q l).set i.toNat ⟨(rd_T42 (sub q l) i).f0, (rd_T42 (sub q l) i).f1, y⟩)
  | [], i, l, y => rfl
  | j :: q, i, l, y => by
    rw [List.cons_append, plug, plug_snoc q i]; rfl
def Leads : List Int → List Tm → Prop
  | [], _ => True
  | i :: r, l => 0 ≤ i ∧ i.toNat < l.length ∧ Leads r (rd_T42 l i).f2
theorem leads_of : ∀ (p : List Int) (l : List Tm) (x : Tm), rA p l = some x → Leads p l
  | [], _, _, _ => trivial
  | i :: r, l, x, h => by
    obtain ⟨h0, h1, h2⟩ := rA_cons h; refine ⟨h0, h1, ?_⟩
    by_cases hr : r = []
    · subst hr; trivial
    · exact leads_of r _ x (h2 hr)
theorem leads_app : ∀ (q : List Int) (i : Int) (r : List Int) (l : List Tm), Leads (q ++ i :: r) l → 0 ≤ i ∧ i.toNat < (sub q l).length
  | [], i, r, l, h => ⟨h.1, h.2.1⟩
  | j :: q, i, r, l, h => leads_app q i r _ h.2.2
theorem leads_pre : ∀ (q r : List Int) (l : List Tm), Leads (q ++ r) l → Leads q l
  | [], _, _, _ => trivial
  | j :: q, r, l, h => ⟨h.1, h.2.1, leads_pre q r _ h.2.2⟩
theorem leads_at {p : List Int} {l : List Tm} (h : Leads p l) (k : Nat) (hk : k < p.length) : 0 ≤ p[k] ∧ p[k].toNat < (sub (p.take k) l).length ∧ Leads (p.take k) l ∧ p.take (k + 1) = p.take k ++ [p[k]] := by
  have e : p = p.take k ++ p[k] :: p.drop (k + 1) := by rw [← List.drop_eq_getElem_cons hk, List.take_append_drop]
  have h' : Leads (p.take k ++ p[k] :: p.drop (k + 1)) l := by rw [← e]; exact h
  obtain ⟨h1, h2⟩ := leads_app _ _ _ _ h'; exact ⟨h1, h2, leads_pre _ _ _ h', by rw [List.take_succ_eq_append_getElem hk]⟩
theorem foc_cell {w1 : World} {g off : Nat} {u : Value} (h : ∃ cs t, w1.heap[g]? = some (.cells cs t (0, 0)) ∧ cs[off]? = some u) : w1.cell? ⟨g, off, none⟩ = some u ∧ w1.frozen? ⟨g, off, none⟩ = false ∧ g < w1.heap.size := by
  obtain ⟨cs, t, h1, h2⟩ := h; exact ⟨(q4 h1 off).trans h2, q11 h1 off, blk_lt h1⟩
theorem putG_plug : ∀ (q : List Int) (i : Int) (l y : List Tm), Leads (q ++ [i]) l → putG (q ++ [i]) l y = plug q l (((sub q l).take i.toNat ++ y) ++ (sub q l).drop (i.toNat + 1))
  | [], i, l, y, h => by
    show putG [i] l y = _; rw [putG, if_pos rfl]; rfl
  | j :: q, i, l, y, h => by
    show putG (j :: (q ++ [i])) l y = l.set j.toNat _; rw [putG, if_neg (by simp), putG_plug q i _ y h.2.2, List.set_eq_take_append_cons_drop, if_pos h.2.1]; simp [sub]
theorem sub_bk : ∀ (q : List Int) (l : List Tm), Leads q l → bk42s (sub q l) ≤ bk42s l
  | [], l, _ => Nat.le_refl _
  | j :: q, l, h => by
    have h1 := sub_bk q _ h.2.2; have h2 := bks_split l j.toNat h.2.1; have h3 := bk42_eq (l[j.toNat]'h.2.1); rw [sub]; rw [rd_in h.2.1] at h1 ⊢
    omega
structure Foc (w1 : World) (bo : Nat) (l : List Tm) (n : Nat) (q : List Int) (g off lo hi : Nat) (u : Value) : Prop where
  blk : ∃ cs t, w1.heap[g]? = some (.cells cs t (0, 0)) ∧ cs[off]? = some u
  tree : OT w1 n (sub q l) u lo hi
  out : ¬ (lo ≤ g ∧ g < hi)
  top : hi ≤ w1.heap.size
  change : ∀ (W' : World) (A' : Option Addr) (c' : Nat) (y : List Tm), (∀ k, k < w1.heap.size → k ≠ g → ¬ (lo ≤ k ∧ k < hi) → W'.heap[k]? = w1.heap[k]?) → (∀ cs t, w1.heap[g]? = some (.cells cs t (0, 0)) → W'.heap[g]? = some (.cells (cs.setIfInBounds off (.slice A' y.length c')) t (0, 0))) →
    y.length ≤ c' → Kd.C k42 W' A' y.length y → ∃ A c, W'.cell? ⟨bo, 0, none⟩ = some (.slice A (plug q l y).length c) ∧ (plug q l y).length ≤ c ∧ Kd.C k42 W' A (plug q l y).length (plug q l y)
theorem Foc.start {w1 : World} {l : List Tm} {n lo : Nat} {u : Value} (h : OT w1 n l u lo w1.heap.size) : Foc (w1.alloc (.cells #[u] 22)) w1.heap.size l n [] w1.heap.size 0 lo w1.heap.size u := by
  have hb : Below w1.heap.size w1 (w1.alloc (.cells #[u] 22)) := (Below.refl _ _).alloc (Nat.le_refl _) _; have hn := World.alloc_heap_new w1 (.cells #[u] 22); refine ⟨⟨#[u], _, hn, rfl⟩, OT.frame n _ _ _ _ h (fun k _ hk => hb.block k hk), by omega, hb.size, fun W' A' c' y h1 h2 h3 h4 => ?_⟩; have h5 := h2 _ _ hn; exact ⟨A', c', (q4 h5 0).trans rfl, h3, h4⟩
theorem set_self' {cs : Array Value} {i : Nat} {u : Value} (h : cs[i]? = some u) : cs.setIfInBounds i u = cs := by
  obtain ⟨hl, hv⟩ := Array.getElem?_eq_some_iff.1 h; apply Array.ext_getElem?; intro j
  by_cases hj : i = j
  · subst hj; rw [set_same h rfl, h]
  · rw [set_other hj]
theorem Foc.step {w1 : World} {bo : Nat} {l : List Tm} {n : Nat} {q : List Int} {g off lo hi : Nat} {u : Value} (h : Foc w1 bo l n q g off lo hi u) (i : Nat) (hi1 : i < (sub q l).length) (hbk : bk42s (sub q l) ≤ 1048576) :
    ∃ b c n' lo' hi' u', u = .slice (some ⟨b, 0, none⟩) (sub q l).length c ∧ (sub q l).length ≤ c ∧ lo ≤ b ∧ lo ≤ lo' ∧ Foc w1 bo l n' (q ++ [(i : Int)]) b (i * 3 + 2) lo' hi' u' := by
  obtain ⟨cs0, t0, hg1, hg2⟩ := h.blk; have ht := h.tree
  cases n with
  | zero => obtain ⟨h0, _⟩ := ht; rw [h0] at hi1; simp at hi1
  | succ n =>
    rcases ht with ⟨h0, _⟩ | ⟨b, c, cs, f, hu, hc, hlo, hlow, hhi, hmono, hrow, hall⟩
    · rw [h0] at hi1; simp at hi1
    · have hm := mono_le hmono; have hx : (sub q l)[i]? = some ((sub q l)[i]'hi1) := List.getElem?_eq_getElem hi1; obtain ⟨u', a1, a2, a3, a4⟩ := hall i _ hx
      have hrd : rd_T42 (sub q l) (i : Int) = (sub q l)[i]'hi1 := by simp [rd_T42, List.getD_eq_getElem?_getD, hx]
      have hbg : g ≠ b := fun e => h.out (by subst e; have := hm 0 (sub q l).length (Nat.zero_le _) (Nat.le_refl _); omega)
      have h00 := hm 0 i (Nat.zero_le _) (by omega); have h0n := hm (i + 1) (sub q l).length (by omega) (Nat.le_refl _); have hii := hmono i (by omega); refine ⟨b, c, n, f i, f (i + 1), u', hu, hc, by omega, by omega, ⟨⟨cs, _, hrow, a3⟩, by rw [sub_snoc, hrd]; exact a4, by omega, by have := h.top; omega, fun W' A' c' y h1 h2 h3 h4 => ?_⟩⟩; rw [plug_snoc]; have hrow' := h2 _ _ hrow
      have hlen : ∀ z : Tm, ((sub q l).set (i : Int).toNat z).length = (sub q l).length := fun z => List.length_set
      have hgsame : W'.heap[g]? = w1.heap[g]? := h1 g (blk_lt hg1) hbg (fun e => h.out (by omega)); refine h.change W' (some ⟨b, 0, none⟩) c _ (fun k hk hkg hko => h1 k hk (fun e => hko (by omega)) (fun e => hko (by omega))) (fun cs' t' hcs' => ?_) (by rw [hlen]; exact hc) ?_
      · rw [hgsame, hlen, ← hu]; rw [hg1] at hcs'
        injection hcs' with hcs'
        injection hcs' with e1 e2 e3
        subst e1; subst e2; rw [set_self' hg2]; exact hg1
      · rw [Int.toNat_natCast]; refine ⟨rfl, by rw [List.length_set]; have := bk_len (sub q l); omega, fun _ => ⟨_, rfl, fun j p hp => ?_⟩⟩; have cell : ∀ (x : Tm) (A2 : Option Addr) (c2 : Nat), (cs.setIfInBounds (i * 3 + 2) (.slice A' y.length c'))[j * 3]? = some (.int .i64 x.f0) → (cs.setIfInBounds (i * 3 + 2) (.slice A' y.length c'))[j * 3 + 1]? = some (.string x.f1) → (cs.setIfInBounds (i * 3 + 2) (.slice A' y.length c'))[j * 3 + 2]? = some (.slice A2 x.f2.length c2) → x.f2.length ≤ c2 → Kd.C k42 W' A2 x.f2.length x.f2 →
            ∃ c : List Value, c.length = k42.sz ∧ k42.K W' x c ∧ ∀ i u, c[i]? = some u → W'.cell? ((⟨b, 0, none⟩ : Addr).add (j * k42.sz + i)) = some u := fun x A2 c2 b1 b2 b3 l2 g2 => by
          refine ⟨[.int .i64 x.f0, .string x.f1, .slice A2 x.f2.length c2], rfl, k42_mk W' x l2 g2, fun m u hu => ?_⟩; rw [add_plain]; refine (q4 hrow' _).trans ?_
          match m, hu with
          | 0, hu => exact b1.trans hu
          | 1, hu => exact b2.trans hu
          | 2, hu => exact b3.trans hu
        by_cases hji : j = i
        · subst hji; rw [List.getElem?_set_self (by omega)] at hp
          injection hp with hp
          subst hp; rw [hrd]; exact cell ⟨_, _, y⟩ A' c' ((set_other (by omega)).trans a1) ((set_other (by omega)).trans a2) (set_same a3 rfl) h3 h4
        · rw [List.getElem?_set_ne (fun e => hji e.symm)] at hp; obtain ⟨v, d1, d2, d3, d4⟩ := hall j p hp; have hjl := idx_lt hp
          have hfo : ∀ k, f j ≤ k → k < f (j + 1) → W'.heap[k]? = w1.heap[k]? := fun k k1 k2 => by
            have g1 := hm 0 j (Nat.zero_le _) (by omega); have g2 := hm (j + 1) (sub q l).length (by omega) (Nat.le_refl _); have g3 := h.top; refine h1 k (by omega) (by omega) (fun e => ?_)
            rcases Nat.lt_or_ge j i with h5 | h5
            · have := hm (j + 1) i (by omega) (by omega); omega
            · have := hm (i + 1) j (by omega) (by omega); omega
          obtain ⟨A2, c2, rfl, l2, g2⟩ := OT.reads (OT.frame n _ _ _ _ d4 hfo) (by have := bk_mem (List.mem_of_getElem? hp); omega); exact cell p A2 c2 ((set_other (by omega)).trans d1) ((set_other (by omega)).trans d2) ((set_other (by omega)).trans d3) l2 g2
theorem rows3_F {W : World} {ok : Nat → Prop} {b : Nat} {A1 A2 A3 : Option Addr} {c1 c2 c3 : Nat} {l1 l2 l3 : List Tm} (h : W.heap[b]? = some (.cells #[.slice A1 l1.length c1, .slice A2 l2.length c2, .slice A3 l3.length c3] 22 (0, 0))) (hb : ok b)
    (h1 : l1.length ≤ c1) (f1 : Kd.F k42 W ok A1 l1.length l1) (h2 : l2.length ≤ c2) (f2 : Kd.F k42 W ok A2 l2.length l2) (h3 : l3.length ≤ c3) (f3 : Kd.F k42 W ok A3 l3.length l3) :
    Kd.F (Kd.slice 42 k42) W ok (some ⟨b, 0, none⟩) 3 [l1, l2, l3] := by
  intro W' hW; have hrow := (hW b hb (blk_lt h)).trans h; refine ⟨rfl, by decide, fun _ => ⟨_, rfl, fun j p hp => ?_⟩⟩
  match j, hp with
  | 0, hp =>
    obtain rfl : l1 = p := by simpa using hp
    exact ⟨[.slice A1 l1.length c1], rfl, ⟨A1, c1, rfl, h1, f1 W' hW⟩, fun i u hu => by rw [add_plain]; match i, hu with | 0, hu => exact (q4 hrow _).trans hu⟩
  | 1, hp =>
    obtain rfl : l2 = p := by simpa using hp
    exact ⟨[.slice A2 l2.length c2], rfl, ⟨A2, c2, rfl, h2, f2 W' hW⟩, fun i u hu => by rw [add_plain]; match i, hu with | 0, hu => exact (q4 hrow _).trans hu⟩
  | 2, hp =>
    obtain rfl : l3 = p := by simpa using hp
    exact ⟨[.slice A3 l3.length c3], rfl, ⟨A3, c3, rfl, h3, f3 W' hW⟩, fun i u hu => by rw [add_plain]; match i, hu with | 0, hu => exact (q4 hrow _).trans hu⟩
theorem OT.foot {W : World} {n : Nat} {l : List Tm} {v : Value} {lo hi : Nat} (h : OT W n l v lo hi) (hb : bk42s l ≤ 1048576) : ∃ A c, v = .slice A l.length c ∧ l.length ≤ c ∧ Kd.F k42 W (fun k => lo ≤ k ∧ k < hi) A l.length l := by
  obtain ⟨A, c, rfl, h1, h2⟩ := OT.reads h hb; refine ⟨A, c, rfl, h1, fun W' hW => ?_⟩; obtain ⟨A', c', e, _, h4⟩ := OT.reads (OT.frame' n l _ lo hi h (fun k k1 k2 o ho => (hW k ⟨k1, k2⟩ (blk_lt ho)).trans ho)) hb
  injection e with e1 e2 e3
  subst e1; exact h4
end Go.Proofs.Ytjhjhhibbmligaa.TE
end
