/- Copy makes a tree of its own; spoil writes into such a tree alone. -/
import Derived.Test.YtdbjjaodkapikaaGTEBa
import Derived.Test.YtdbjjaodkapikaaGTEPlain
import Derived.OwnWalk
import Derived.Deep.LoopGhost
namespace Go.Proofs.Ytdbjjaodkapikaa.TE
open Go.RowKit Go.Shelf Go.Proofs.YtdbjjaodkapikaaW.PrintWords Go.Proofs.YtdbjjaodkapikaaW.PrintLast Go.Proofs.YtdbjjaodkapikaaW.PrintMore Go.Proofs.Ytdbjjaodkapikaa.Evs
set_option linter.unusedVariables false
set_option linter.unusedSimpArgs false
def OT (W : World) : Nat → List Tm → Value → Nat → Nat → Prop
  | 0, l, v, _, _ => l = [] ∧ ∃ A c, v = .slice A 0 c
  | n + 1, l, v, lo, hi => (l = [] ∧ ∃ A c, v = .slice A 0 c) ∨ ∃ (b c : Nat) (cs : Array Value) (f : Nat → Nat), v = .slice (some ⟨b, 0, none⟩) l.length c ∧ l.length ≤ c ∧ lo ≤ b ∧ b < f 0 ∧ f l.length ≤ hi ∧ (∀ j, j < l.length → f j ≤ f (j + 1)) ∧
      W.heap[b]? = some (.cells cs 42 (0, 0)) ∧ ∀ j x, l[j]? = some x → ∃ u, cs[j * 3]? = some (.int .i64 x.f0) ∧ cs[j * 3 + 1]? = some (.string x.f1) ∧ cs[j * 3 + 2]? = some u ∧ OT W n x.f2 u (f j) (f (j + 1))
theorem mono_le {f : Nat → Nat} {n : Nat} (h : ∀ j, j < n → f j ≤ f (j + 1)) : ∀ j k, j ≤ k → k ≤ n → f j ≤ f k := by
  intro j k hjk
  induction k with
  | zero => intro _; obtain rfl : j = 0 := by omega
            exact Nat.le_refl _
  | succ k ih =>
    intro hk
    rcases Nat.lt_or_ge j (k + 1) with hj | hj
    · exact Nat.le_trans (ih (by omega) (by omega)) (h k (by omega))
    · obtain rfl : j = k + 1 := by omega
      exact Nat.le_refl _
theorem idx_lt {α : Type} {l : List α} {j : Nat} {x : α} (h : l[j]? = some x) : j < l.length := (List.getElem?_eq_some_iff.1 h).1
theorem OT.frame {W W' : World} : ∀ (n : Nat) (l : List Tm) (v : Value) (lo hi : Nat), OT W n l v lo hi → (∀ k, lo ≤ k → k < hi → W'.heap[k]? = W.heap[k]?) → OT W' n l v lo hi
  | 0, l, v, lo, hi, h, _ => h
  | n + 1, l, v, lo, hi, h, hk => by
    rcases h with h | ⟨b, c, cs, f, h1, h2, h3, h4, h5, h6, h7, h8⟩
    · exact .inl h
    · have hm := mono_le h6; have hb := hm 0 l.length (Nat.zero_le _) (Nat.le_refl _); refine .inr ⟨b, c, cs, f, h1, h2, h3, h4, h5, h6, (hk b h3 (by omega)).trans h7, fun j x hj => ?_⟩; obtain ⟨u, a1, a2, a3, a4⟩ := h8 j x hj; have hl := idx_lt hj; have e1 := hm 0 j (Nat.zero_le _) (by omega); have e2 := hm (j + 1) l.length (by omega) (Nat.le_refl _); exact ⟨u, a1, a2, a3, OT.frame n _ _ _ _ a4 (fun k g1 g2 => hk k (by omega) (by omega))⟩
theorem OT.frame' {W W' : World} (n : Nat) (l : List Tm) (v : Value) (lo hi : Nat) (h : OT W n l v lo hi) (hk : ∀ k, lo ≤ k → k < hi → ∀ o, W.heap[k]? = some o → W'.heap[k]? = some o) : OT W' n l v lo hi := by
  induction n generalizing l v lo hi with
  | zero => exact h
  | succ n ih =>
    rcases h with h | ⟨b, c, cs, f, h1, h2, h3, h4, h5, h6, h7, h8⟩
    · exact .inl h
    · have hm := mono_le h6; have hb := hm 0 l.length (Nat.zero_le _) (Nat.le_refl _); refine .inr ⟨b, c, cs, f, h1, h2, h3, h4, h5, h6, hk b h3 (by omega) _ h7, fun j x hj => ?_⟩; obtain ⟨u, a1, a2, a3, a4⟩ := h8 j x hj; have hl := idx_lt hj; have e1 := hm 0 j (Nat.zero_le _) (by omega); have e2 := hm (j + 1) l.length (by omega) (Nat.le_refl _); exact ⟨u, a1, a2, a3, ih _ _ _ _ a4 (fun k g1 g2 => hk k (by omega) (by omega))⟩
theorem OT.mono {W : World} : ∀ {n : Nat} {l : List Tm} {v : Value} {lo hi lo' hi' : Nat}, OT W n l v lo hi → lo' ≤ lo → hi ≤ hi' → OT W n l v lo' hi'
  | 0, l, v, lo, hi, lo', hi', h, _, _ => h
  | n + 1, l, v, lo, hi, lo', hi', h, h1, h2 => by
    rcases h with h | ⟨b, c, cs, f, a1, a2, a3, a4, a5, a6, a7, a8⟩
    · exact .inl h
    · exact .inr ⟨b, c, cs, f, a1, a2, by omega, a4, by omega, a6, a7, a8⟩
theorem OT.fuel {W : World} : ∀ {n m : Nat} {l : List Tm} {v : Value} {lo hi : Nat}, OT W n l v lo hi → n ≤ m → OT W m l v lo hi
  | 0, 0, l, v, lo, hi, h, _ => h
  | 0, m + 1, l, v, lo, hi, h, _ => .inl h
  | n + 1, 0, l, v, lo, hi, h, hm => absurd hm (by omega)
  | n + 1, m + 1, l, v, lo, hi, h, hm => by
    rcases h with h | ⟨b, c, cs, f, a1, a2, a3, a4, a5, a6, a7, a8⟩
    · exact .inl h
    · refine .inr ⟨b, c, cs, f, a1, a2, a3, a4, a5, a6, a7, fun j x hj => ?_⟩; obtain ⟨u, b1, b2, b3, b4⟩ := a8 j x hj; exact ⟨u, b1, b2, b3, OT.fuel b4 (by omega)⟩
theorem OT.form {W : World} {n : Nat} {l : List Tm} {v : Value} {lo hi : Nat} (h : OT W n l v lo hi) : ∃ A c, v = .slice A l.length c := by
  cases n with
  | zero => obtain ⟨rfl, A, c, rfl⟩ := h; exact ⟨A, c, rfl⟩
  | succ n =>
    rcases h with ⟨rfl, A, c, rfl⟩ | ⟨b, c, cs, f, a1, _⟩
    · exact ⟨A, c, rfl⟩
    · exact ⟨_, _, a1⟩
theorem bk_kid {l : List Tm} {x : Tm} (h : x ∈ l) {B : Nat} (hb : bk42s l ≤ B) : bk42s x.f2 ≤ B ∧ x.f1.size ≤ B := by
  have := bk_mem h
  omega
theorem bk_len' {l : List Tm} {B : Nat} (hb : bk42s l ≤ B) : l.length ≤ B := by
  have := bk_len l
  omega
theorem OT.reads {W : World} : ∀ {n : Nat} {l : List Tm} {v : Value} {lo hi : Nat}, OT W n l v lo hi → bk42s l ≤ 1048576 → ∃ A c, v = .slice A l.length c ∧ l.length ≤ c ∧ Kd.C k42 W A l.length l
  | 0, l, v, lo, hi, h, _ => by
    obtain ⟨rfl, A, c, rfl⟩ := h; exact ⟨A, c, rfl, Nat.zero_le _, rfl, by decide, fun hp => absurd hp (by decide)⟩
  | n + 1, l, v, lo, hi, h, hb => by
    rcases h with ⟨rfl, A, c, rfl⟩ | ⟨b, c, cs, f, a1, a2, a3, a4, a5, a6, a7, a8⟩
    · exact ⟨A, c, rfl, Nat.zero_le _, rfl, by decide, fun hp => absurd hp (by decide)⟩
    · refine ⟨some ⟨b, 0, none⟩, c, a1, a2, rfl, by have := bk_len' hb; omega, fun hp => ⟨_, rfl, fun j x hj => ?_⟩⟩; obtain ⟨u, b1, b2, b3, b4⟩ := a8 j x hj; have hmem : x ∈ l := List.mem_of_getElem? hj; obtain ⟨A2, c2, rfl, l2, g2⟩ := OT.reads b4 (bk_kid hmem hb).1; refine ⟨[.int .i64 x.f0, .string x.f1, .slice A2 x.f2.length c2], rfl, k42_mk W x l2 g2, fun i u hu => ?_⟩; rw [add_plain]; refine (q4 a7 _).trans ?_
      match i, hu with
      | 0, hu => exact b1.trans hu
      | 1, hu => exact b2.trans hu
      | 2, hu => exact b3.trans hu
theorem inner_of {R : Tm → List Value → Prop} {w : World} {ad : Addr} : ∀ (l : List Tm) (o : Nat), (∀ j p, l[j]? = some p → ∃ c, c.length = 3 ∧ R p c ∧ ∀ i u, c[i]? = some u → w.cell? (ad.add ((o + j) * 3 + i)) = some u) →
    ∃ cs, Reps R 3 l cs ∧ ∀ i u, cs[i]? = some u → w.cell? (ad.add (o * 3 + i)) = some u
  | [], o, _ => ⟨[], Reps.none _ _, fun i u h => by simp at h⟩
  | x :: r, o, h => by
    obtain ⟨c, hc, hR, hcell⟩ := h 0 x rfl
    obtain ⟨cs, hr, hcs⟩ := inner_of r (o + 1) (fun j p hj => by
      obtain ⟨c', h1, h2, h3⟩ := h (j + 1) p (by simpa using hj); refine ⟨c', h1, h2, fun i u hu => ?_⟩; have := h3 i u hu
      rwa [show o + 1 + j = o + (j + 1) by omega])
    refine ⟨c ++ cs, Reps.front hR hc hr rfl, fun i u hu => ?_⟩
    rcases Nat.lt_or_ge i c.length with hi | hi
    · rw [List.getElem?_append_left hi] at hu; have := hcell i u hu
      simpa using this
    · rw [List.getElem?_append_right hi] at hu; have := hcs (i - c.length) u hu
      rwa [show (o + 1) * 3 + (i - c.length) = o * 3 + i by omega] at this
def Row0 (w0 : World) (l : List Tm) (cs : Array Value) (q : Nat) : Prop :=
  ∀ j x, q ≤ j → l[j]? = some x → ∃ A2 c2, cs[j * 3]? = some (.int .i64 x.f0) ∧ cs[j * 3 + 1]? = some (.string x.f1) ∧ cs[j * 3 + 2]? = some (.slice A2 x.f2.length c2) ∧ x.f2.length ≤ c2 ∧ Kd.C k42 w0 A2 x.f2.length x.f2
def Cloned (w0 W W' : World) (l : List Tm) (v : Value) : Prop :=
  (l = [] ∧ ∃ A c, v = .slice A 0 c) ∨ ∃ b c cs, v = .slice (some ⟨b, 0, none⟩) l.length c ∧ l.length ≤ c ∧ W.heap.size ≤ b ∧ W'.heap[b]? = some (.cells cs 42 (0, 0)) ∧ Row0 w0 l cs 0
theorem cloned_of {w0 W W' : World} {l : List Tm} {v : Value} {inner : List Value} (h : W'.ownsRow W.heap.size 42 3 v l.length inner) (hr : Reps (k42.K w0) 3 l inner) : Cloned w0 W W' l v := by
  rcases h.2 with ⟨rfl, h0⟩ | ⟨b, c, cs, rfl, hb, hh, hc, _, _, ht⟩
  · exact .inl ⟨List.length_eq_zero_iff.1 h0, none, 0, rfl⟩
  · refine .inr ⟨b, c, cs, rfl, hc, hb, hh, fun j x _ hj => ?_⟩; have hl := idx_lt hj; obtain ⟨A2, c2, he, l2, g2⟩ := k42_open (hr.2 j x hj)
    have key : ∀ i, i < 3 → cs[j * 3 + i]? = ([.int .i64 x.f0, .string x.f1, .slice A2 x.f2.length c2] : List Value)[i]? := by
      intro i hi; rw [← he, List.getElem?_take, if_pos hi, List.getElem?_drop, ← ht, List.getElem?_take, if_pos (by omega)]; simp
    exact ⟨A2, c2, key 0 (by decide), key 1 (by decide), key 2 (by decide), l2, g2⟩
theorem info_term' : (Try.prog.info? 42).map (fun i => (i.zero, i.size, i.bytes)) = some (some (.agg #[.int .i64 0, .string ⟨#[]⟩, .slice none 0 0]), 3, 48) := by kernel_rfl
set_option maxRecDepth 100000 in
set_option maxHeartbeats 4000000 in
theorem Clone.calls (w0 : World) (A : Option Addr) (c : Nat) (l : List Tm) (W : World) (hC : Kd.C k42 w0 A l.length l) (hc : l.length ≤ c) (hB : Below w0.heap.size w0 W) (h8 : l.length ≤ 1048576) :
    Calls Try.prog 71 #[.slice A l.length c] W fun e W' => ∃ v, e = .returned v ∧ Cloned w0 W W' l v ∧ Below W.heap.size W W' := by
  have heq := fun (W : World) (a : Option Addr) (n c : Nat) => Lib.run_eql_slice_nil (P := Try.prog) W 22 42 a n c 0 0 Try.underlying22
  cases A with
  | none =>
    have hn : l = [] := by
      rcases l with _ | ⟨x, l⟩
      · rfl
      · obtain ⟨ad, he, _⟩ := hC.2.2 (by simp); cases he
    subst hn
    go_enter Try.func71, Try.ntmps71
    go_wp2_with fail
    go_ret; exact ⟨_, rfl, .inl ⟨rfl, _, _, rfl⟩, Below.refl _ _⟩
  | some ad =>
    obtain ⟨inner, hr, hcell⟩ : ∃ cs, Reps (k42.K w0) 3 l cs ∧ ∀ i u, cs[i]? = some u → w0.cell? (ad.add i) = some u := by
      rcases Nat.eq_zero_or_pos l.length with h0 | h0
      · have : l = [] := List.length_eq_zero_iff.1 h0; subst this; exact ⟨[], Reps.none _ _, fun i u h => by simp at h⟩
      · obtain ⟨ad', he, hh⟩ := hC.2.2 h0
        obtain rfl : ad = ad' := by injection he
        obtain ⟨cs, h1, h2⟩ := inner_of (R := k42.K w0) l 0 (fun j p hj => by rw [show 0 + j = j by omega]; exact hh j p hj); exact ⟨cs, h1, fun i u hu => by simpa using h2 i u hu⟩
    have hown := World.ownsRow_made (e := 42) (size := 3) (base := W.heap.size) W #[] 0 (Nat.le_refl _) (by decide) rfl; have hb0 : Below W.heap.size W (W.alloc (.cells #[] 42)) := (Below.refl _ _).alloc (Nat.le_refl _) _
    have hcell' : ∀ i u, inner[i]? = some u → (W.alloc (.cells #[] 42)).cell? (ad.add i) = some u := fun i u hu => pw_cell_below (q10 hB hb0) (hcell i u hu)
    have hone : ∀ u ∈ inner, u.oneCell' = true := Kd.reps_one hr (by decide) (fun p c h => k42.K_one h); have HO := Aside0.mk hown; have HB0 := Aside0.mk hb0; have HCELL := Aside0.mk hcell'; have HONE := Aside0.mk hone; have HR := Aside0.mk hr; have H8 := Aside0.mk h8; clear hC hB h8 hr hcell hown hb0 hcell' hone; obtain ⟨i0, hi, hz0, hz1, hz2⟩ := info_parts info_term'
    go_enter Try.func71, Try.ntmps71
    go_wp2_with (at_builtin; refine wpList_append_own _ rfl _ _ 22 rfl W.heap.size 42 i0 (.agg #[.int .i64 0, .string ⟨#[]⟩, .slice none 0 0]) 3 48 Try.underlying22 hi hz0 hz1 hz2 rfl (by decide) _ _ _ rfl HO.out ad l.length c inner rfl HR.out.1 HCELL.out HONE.out (by have := H8.out; simp only [maxLen]; omega) (by have := H8.out; omega) (by simp) ?_; intro v5 w5 hown5 hgrow5 _; have HO5 := Aside0.mk hown5; have HB5 := Aside0.mk (HB0.out.grown hgrow5 HB0.out.size (fun k hk => (HO.out.lt k hk).1)); clear hown5 hgrow5)
    go_ret; exact ⟨_, rfl, cloned_of (by simpa using HO5.out) HR.out, HB5.out⟩
theorem below_elder {B : Nat} {W W' : World} (h : Below B W W') (b i : Nat) (v : Value) (hb : B ≤ b) : Below B W (W'.setCell ⟨b, i, none⟩ v) :=
  ⟨h.os, h.tape, h.output, by simpa [World.setCell] using h.size, fun k hk => (Below.heap_setCell W' ⟨b, i, none⟩ v k (fun e => by have : k = b := e; omega)).trans (h.block k hk)⟩
structure Cp (w0 wr : World) (k : Nat) (l : List Tm) (b q : Nat) (cs : Array Value) (f : Nat → Nat) : Prop where
  row : wr.heap[b]? = some (.cells cs 42 (0, 0))
  low : b < f 0
  top : f q = wr.heap.size
  mono : ∀ j, j < q → f j ≤ f (j + 1)
  done : ∀ j x, j < q → l[j]? = some x → ∃ u, cs[j * 3]? = some (.int .i64 x.f0) ∧ cs[j * 3 + 1]? = some (.string x.f1) ∧ cs[j * 3 + 2]? = some u ∧ OT wr k x.f2 u (f j) (f (j + 1))
  todo : Row0 w0 l cs q
theorem set_same {cs : Array Value} {i j : Nat} {u v : Value} (h : cs[i]? = some u) (hij : j = i) : (cs.setIfInBounds j v)[i]? = some v := by
  subst hij; have hl := (Array.getElem?_eq_some_iff.1 h).1; simp [hl]
theorem set_other {cs : Array Value} {i j : Nat} {v : Value} (hij : j ≠ i) : (cs.setIfInBounds j v)[i]? = cs[i]? := by
  simp [Array.getElem?_setIfInBounds, hij]
theorem Cp.next {w0 wr w2 : World} {k : Nat} {l : List Tm} {b q : Nat} {cs : Array Value} {f : Nat → Nat} {x : Tm} {u : Value} (h : Cp w0 wr k l b q cs f) (hx : l[q]? = some x) (hb : Below wr.heap.size wr w2) (ho : OT w2 k x.f2 u wr.heap.size w2.heap.size) :
    Cp w0 (w2.setCell ⟨b, q * 3 + 2, none⟩ u) k l b (q + 1) (cs.setIfInBounds (q * 3 + 2) u) (fun j => if j ≤ q then f j else w2.heap.size) := by
  have hbl := blk_lt h.row; have hrow := (hb.block b hbl).trans h.row; have hm := mono_le h.mono
  have hsz : (w2.setCell ⟨b, q * 3 + 2, none⟩ u).heap.size = w2.heap.size := by simp [World.setCell]
  have hfar : ∀ i, i ≠ b → (w2.setCell ⟨b, q * 3 + 2, none⟩ u).heap[i]? = w2.heap[i]? := fun i hi => Below.heap_setCell w2 ⟨b, q * 3 + 2, none⟩ u i hi
  have hf0 : b < wr.heap.size := hbl; obtain ⟨A2, c2, t1, t2, t3, _, _⟩ := h.todo q x (Nat.le_refl _) hx; refine ⟨blk_set hrow _ _, by simpa using h.low, by rw [hsz]; exact if_neg (by omega), fun j hj => ?_, fun j y hj hy => ?_, fun j y hj hy => ?_⟩
  · rcases Nat.lt_or_ge j q with h1 | h1
    · rw [if_pos (by omega), if_pos (by omega)]; exact h.mono j h1
    · obtain rfl : j = q := by omega
      rw [if_pos (Nat.le_refl _), if_neg (by omega), h.top]; exact hb.size
  · rcases Nat.lt_or_ge j q with h1 | h1
    · obtain ⟨v, a1, a2, a3, a4⟩ := h.done j y h1 hy; refine ⟨v, (set_other (by omega)).trans a1, (set_other (by omega)).trans a2, (set_other (by omega)).trans a3, ?_⟩; rw [if_pos (by omega), if_pos (by omega)]; refine OT.frame k _ _ _ _ a4 (fun i g1 g2 => ?_); have e1 := hm 0 j (Nat.zero_le _) (by omega); have e2 := hm (j + 1) q (by omega) (Nat.le_refl _); have e3 := h.top; have e4 := h.low; exact (hfar i (by omega)).trans (hb.block i (by omega))
    · obtain rfl : j = q := by omega
      obtain rfl : x = y := by rw [hx] at hy; injection hy
      refine ⟨u, (set_other (by omega)).trans t1, (set_other (by omega)).trans t2, set_same t3 rfl, ?_⟩; rw [if_pos (Nat.le_refl _), if_neg (by omega), h.top]; exact OT.frame k _ _ _ _ ho (fun i g1 g2 => hfar i (by omega))
  · obtain ⟨A3, c3, s1, s2, s3, s4, s5⟩ := h.todo j y (by omega) hy; exact ⟨A3, c3, (set_other (by omega)).trans s1, (set_other (by omega)).trans s2, (set_other (by omega)).trans s3, s4, s5⟩
theorem Cp.whole {w0 wr : World} {k c : Nat} {l : List Tm} {b lo : Nat} {cs : Array Value} {f : Nat → Nat} (h : Cp w0 wr k l b l.length cs f) (hc : l.length ≤ c) (hlo : lo ≤ b) : OT wr (k + 1) l (.slice (some ⟨b, 0, none⟩) l.length c) lo wr.heap.size :=
  .inr ⟨b, c, cs, f, rfl, hc, hlo, h.low, by rw [h.top]; exact Nat.le_refl _, h.mono, h.row, fun j x hj => h.done j x (idx_lt hj) hj⟩
set_option maxRecDepth 100000 in
set_option maxHeartbeats 4000000 in
theorem Copy.calls (w0 : World) : ∀ (k : Nat) (A : Option Addr) (c : Nat) (l : List Tm) (W : World), SizeOf.sizeOf l ≤ k → Kd.C k42 w0 A l.length l → l.length ≤ c → Below w0.heap.size w0 W → bk42s l ≤ 1048576 →
    Calls Try.prog 29 #[.slice A l.length c] W fun e W' => ∃ v, e = .returned v ∧ OT W' k l v W.heap.size W'.heap.size ∧ Below W.heap.size W W' := by
  intro k
  induction k with
  | zero => intro A c l W hk; cases l <;> simp at hk
  | succ k ih =>
    intro A c l W hk hC hc hB hbk; have hlen := bk_len' hbk; have hcl := Clone.calls w0 A c l W hC hc hB hlen; have HCL := Aside0.mk hcl; have HB := Aside0.mk hB; have HK := Aside0.mk hk; have HBK := Aside0.mk hbk; have HLEN := Aside0.mk hlen; have IH := Aside0.mk ih; clear hcl hC hc hB hk hbk ih hlen
    go_enter Try.func29, Try.ntmps29
    go_wp2_with fail
    refine HCL.out.mono ?_; rintro e w1 ⟨v, rfl, hcd, hb1⟩; have HB1 := Aside0.mk hb1; clear hb1
    rcases hcd with ⟨rfl, A1, c1, rfl⟩ | ⟨b, c1, cs1, rfl, hc1, hb, hrow1, htodo⟩
    · go_wp2_with fail
      go_loopw [9] (fun i wr => i = .int .i64 ((0 : Nat) : Int) ∧ Aside0 (Below W.heap.size W wr)) (fun i wr => 0)
      case atStart => exact ⟨rfl, HB1⟩
      case round =>
        obtain ⟨rfl, HBR⟩ := hrel
        go_wp2_with fail
        go_ret; exact ⟨_, rfl, .inl ⟨rfl, _, _, rfl⟩, HBR.out⟩
    · have h0 : Cp w0 w1 k l b 0 cs1 (fun _ => w1.heap.size) := ⟨hrow1, blk_lt hrow1, rfl, fun _ _ => Nat.le_refl _, fun j x hj => absurd hj (by omega), htodo⟩; have H0 := Aside0.mk h0; have HBB := Aside0.mk hb; have HC1 := Aside0.mk hc1; clear h0 hb hc1 hrow1 htodo
      go_wp2_with fail
      go_loopw [9] (fun i wr => ∃ (q : Nat) (cs : Array Value) (f : Nat → Nat), i = .int .i64 q ∧ q ≤ l.length ∧ Aside0 (Cp w0 wr k l b q cs f) ∧ Aside0 (Below W.heap.size W wr)) (fun i wr => l.length - (intOf i).toNat)
      case atStart => exact ⟨0, cs1, _, rfl, Nat.zero_le _, H0, HB1⟩
      case round =>
        obtain ⟨q, cs, f, rfl, hq, HCP, HBR⟩ := hrel; have hq0 : (0 : Int) ≤ (q : Int) := Int.natCast_nonneg _
        by_cases hlt : q < l.length
        · have e1 : decide ((q : Int) < (l.length : Int)) = true := decide_eq_true (by omega)
          have hqi : (q : Int) < (l.length : Int) := by omega
          obtain ⟨x, hx⟩ : ∃ x, l[q]? = some x := ⟨_, List.getElem?_eq_getElem hlt⟩; have HX := Aside0.mk hx; have hmem : x ∈ l := List.mem_of_getElem? hx; have HMEM := Aside0.mk hmem; obtain ⟨A2, c2, t1, t2, t3, t4, t5⟩ := HCP.out.todo q x (Nat.le_refl _) hx; have T4 := Aside0.mk t4; have T5 := Aside0.mk t5; have x2 : wr.cell? ⟨b, q * 3 + 2, none⟩ = some (.slice A2 x.f2.length c2) := (q4 HCP.out.row _).trans t3; have T3 := Aside0.mk t3; have hbl : b < wr.heap.size := blk_lt HCP.out.row
          have hw : IntKind.i64.wrap ((q : Int) + 1) = (q : Int) + 1 := by have := HLEN.out; rw [i64_w]; rw [wrap64_id (by omega) (by omega)]
          have hsz : SizeOf.sizeOf x.f2 ≤ k := by
            have h1 := List.sizeOf_lt_of_mem hmem
            have h2 : SizeOf.sizeOf x.f2 < SizeOf.sizeOf x := by cases x; simp; omega
            have := HK.out
            omega
          have HSZ := Aside0.mk hsz; clear hx hmem t1 t2 t3 t4 t5 hsz
          go_wp2_with fail
          refine (IH.out A2 c2 x.f2 wr HSZ.out T5.out T4.out (q10 HB.out HBR.out) (bk_kid HMEM.out HBK.out).1).mono ?_; rintro e w2 ⟨v2, rfl, ho2, hb2⟩; obtain ⟨A3, c3, rfl⟩ := ho2.form; have y2 : w2.cell? ⟨b, q * 3 + 2, none⟩ = some (.slice A2 x.f2.length c2) := (q4 ((hb2.block b hbl).trans HCP.out.row) _).trans T3.out; have yf : w2.frozen? ⟨b, q * 3 + 2, none⟩ = false := q9 ((hb2.block b hbl).trans HCP.out.row) _; have HCP2 := Aside0.mk (HCP.out.next HX.out hb2 ho2); have HBR2 := Aside0.mk (below_elder (q10 HBR.out hb2) b (q * 3 + 2) (.slice A3 x.f2.length c3) HBB.out); clear hb2 ho2 x2
          go_wp2_with fail
          go_roundw
          case rel => exact ⟨q + 1, _, _, by go_num, by omega, HCP2, HBR2⟩
          case measure => simp [intOf]; omega
        · have e1 : decide ((q : Int) < (l.length : Int)) = false := decide_eq_false (by omega); have e1' : decide (q < l.length) = false := decide_eq_false hlt
          have hqe : q = l.length := by omega
          have HQE := Aside0.mk hqe; clear hqe hlt
          go_wp2_with fail
          go_ret; have hqe := HQE.out; have hcp := HCP.out; rw [hqe] at hcp; exact ⟨_, rfl, hcp.whole HC1.out HBB.out, HBR.out⟩
end Go.Proofs.Ytdbjjaodkapikaa.TE
