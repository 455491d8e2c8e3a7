/- term.Variable. -/
import Derived.Test.YtdbjjaodkapikaaKTEPlain
import Derived.Test.YtdbjjaodkapikaaKTEx13
import Derived.Test.YtdbjjaodkapikaaKTEBa
import Derived.OwnWalk
import Derived.Deep.LoopGhost
import Derived.Test.YtdbjjaodkapikaaKWMore
import Derived.Lib.AppendZerosOnto
import Derived.WalkSpells
import Derived.Test.YtdbjjaodkapikaaKTEWrites
import Derived.Deep.RegionWith
import Derived.Test.YtdbjjaodkapikaaKShelf
section
namespace Go.Proofs.Ytdbjjaodkapikaa.TE
open Go.RowKit Go.Proofs.YtdbjjaodkapikaaW.PrintWords Go.Proofs.YtdbjjaodkapikaaW.PrintLast Go.Proofs.YtdbjjaodkapikaaW.PrintMore Go.Proofs.Ytdbjjaodkapikaa.Evs
set_option linter.unusedVariables false
set_option linter.unusedSimpArgs false
theorem less_self (l : List UInt8) : Op.bytesLess l l = false := by
  induction l with
  | nil => rfl
  | cons b r ih => simp [Op.bytesLess, ih]
theorem less_total : ∀ a b : List UInt8, Op.bytesLess a b = false → Op.bytesLess b a = false → a = b
  | [], [], _, _ => rfl
  | [], _ :: _, h, _ => by simp [Op.bytesLess] at h
  | _ :: _, [], _, h => by simp [Op.bytesLess] at h
  | x :: r, y :: s, h, h2 => by
    simp only [Op.bytesLess] at h h2
    by_cases c : x < y
    · simp [c] at h
    · by_cases c2 : y < x
      · simp [c2] at h2
      · have : x = y := UInt8.le_antisymm (UInt8.not_lt.1 c2) (UInt8.not_lt.1 c); subst this; simp [c] at h h2; rw [less_total r s h h2]
theorem cmps_eq (a b : ByteArray) : cmp_Compare_string.f a b = chiasmusref01_Sign.f a b := by
  simp [cmp_Compare_string.f, cmp_isNaN_string.f, chiasmusref01_Sign.f]
theorem cmpi_eq (a b : Int) : cmp_Compare_int.f a b = some (if a < b then -1 else if a > b then 1 else 0) := by
  simp only [cmp_Compare_int.f, cmp_isNaN_int.f, Option.bind_some, bne_self_eq_false, Bool.false_eq_true, if_false]
  split
  · rfl
  · split <;> rfl
theorem sign_eq (a b : ByteArray) : ∃ v, chiasmusref01_Sign.f a b = some v ∧ (v = 0 ↔ a = b) := by
  unfold chiasmusref01_Sign.f
  by_cases c : Op.bytesLess a.toList b.toList = true
  · rw [if_pos c]; refine ⟨-1, rfl, ⟨fun h => by omega, fun h => ?_⟩⟩; subst h; rw [less_self] at c; cases c
  · rw [if_neg c]
    by_cases c2 : Op.bytesLess b.toList a.toList = true
    · rw [if_pos c2]; refine ⟨1, rfl, ⟨fun h => by omega, fun h => ?_⟩⟩; subst h; exact absurd c2 c
    · rw [if_neg c2]; refine ⟨0, rfl, ⟨fun _ => ba_ext ?_, fun _ => rfl⟩⟩; have := less_total _ _ (Bool.eq_false_iff.2 c) (Bool.eq_false_iff.2 c2)
      rwa [toList_data, toList_data] at this
theorem mn_lt (a b i : Int) : i < mn a b ↔ i < a ∧ i < b := by unfold mn; split <;> omega
theorem cmp2_loop {x0 x1 : List S42} (hb : x0.length ≤ 1099511627776) (hb1 : x1.length ≤ 1099511627776) : ∀ (r : List S42) (s : List S42) (n : Nat), x0.drop n = r → x1.drop n = s → x0.length = n + r.length → x1.length = n + s.length →
    (∀ x ∈ r, ∀ y ∈ s, ∃ v, Evt (fun k => chiasmusref01_Compare.f k x.f2 y.f2) v ∧ Evt (fun k => term_Compare.f k x.f2 y.f2) v ∧ (v = 0 ↔ x.f2 = y.f2)) →
    ∃ v, Evt (fun k => chiasmusref01_Compare.l0 k x0 x1 (n : Int)) v ∧ Evt (fun k => term_Compare.l0 k x0 x1 (mn (x0.length : Int) (x1.length : Int)) (n : Int)) v ∧ (v = 0 ↔ r = s)
  | [], s, n, h, h', hl, hl', _ => by
    have e : ∀ k, chiasmusref01_Compare.l0 (k + 1) x0 x1 (n : Int) = chiasmusref01_Compare.j1 k x0 x1 (n : Int) false := fun k => by simp only [chiasmusref01_Compare.l0, if_neg (stop h)]
    have e2 : ∀ k, term_Compare.l0 (k + 1) x0 x1 (mn (x0.length : Int) (x1.length : Int)) (n : Int) = some (if (x0.length : Int) < (x1.length : Int) then -1 else if (x0.length : Int) > (x1.length : Int) then 1 else 0) := fun k => by
      simp only [term_Compare.l0, if_neg (show ¬ (n : Int) < mn (x0.length : Int) (x1.length : Int) from fun hh => stop h ((mn_lt _ _ _).1 hh).1), cmpi_eq, Option.bind_some]
    simp only [List.length_nil] at hl
    by_cases c : (x0.length : Int) < (x1.length : Int)
    · refine ⟨-1, Evt.succ ?_, Evt.succ ?_, ⟨fun h => by omega, fun h => by subst h; simp at hl'; omega⟩⟩
      · simp only [e]; refine Evt.succ ?_; simp only [chiasmusref01_Compare.j1, Bool.false_eq_true, if_false, if_pos c]; exact Evt.const _
      · simp only [e2, if_pos c]; exact Evt.const _
    · by_cases c2 : (x0.length : Int) > (x1.length : Int)
      · refine ⟨1, Evt.succ ?_, Evt.succ ?_, ⟨fun h => by omega, fun h => by subst h; simp at hl'; omega⟩⟩
        · simp only [e]; refine Evt.succ ?_; simp only [chiasmusref01_Compare.j1, Bool.false_eq_true, if_false, if_neg c, if_pos c2]; exact Evt.const _
        · simp only [e2, if_neg c, if_pos c2]; exact Evt.const _
      · have hs : s = [] := List.length_eq_zero_iff.1 (by omega); refine ⟨0, Evt.succ ?_, Evt.succ ?_, ⟨fun _ => hs.symm, fun _ => rfl⟩⟩
        · simp only [e]; refine Evt.succ ?_; simp only [chiasmusref01_Compare.j1, Bool.false_eq_true, if_false, if_neg c, if_neg c2]; exact Evt.const _
        · simp only [e2, if_neg c, if_neg c2]; exact Evt.const _
  | x :: r, [], n, h, h', hl, hl', _ => by
    obtain ⟨h1, h2, h3, h4, h5⟩ := mid h hb; simp only [List.length_nil] at hl'
    have c0 : ¬ (n : Int) < (x1.length : Int) := by omega
    refine ⟨1, Evt.succ ?_, Evt.succ ?_, ⟨fun h => by omega, fun h => by cases h⟩⟩
    · simp only [chiasmusref01_Compare.l0, if_pos h1, decide_eq_false c0]; refine Evt.succ ?_; simp only [chiasmusref01_Compare.j1, Bool.false_eq_true, if_false, if_neg (show ¬ (x0.length : Int) < (x1.length : Int) by omega), if_pos (show (x0.length : Int) > (x1.length : Int) by omega)]; exact Evt.const _
    · simp only [term_Compare.l0, if_neg (show ¬ (n : Int) < mn (x0.length : Int) (x1.length : Int) from fun hh => c0 ((mn_lt _ _ _).1 hh).2), cmpi_eq, Option.bind_some, if_neg (show ¬ (x0.length : Int) < (x1.length : Int) by omega), if_pos (show (x0.length : Int) > (x1.length : Int) by omega)]; exact Evt.const _
  | x :: r, y :: s, n, h, h', hl, hl', hk => by
    obtain ⟨h1, h2, h3, h4, h5⟩ := mid h hb; obtain ⟨g1, _, g3, g4, _⟩ := mid h' hb1; simp only [List.length_cons] at hl hl'; obtain ⟨v, hv, hv', iv⟩ := hk x List.mem_cons_self y List.mem_cons_self
    obtain ⟨u, hu, hu', iu⟩ := cmp2_loop hb hb1 r s (n + 1) h4 g4 (by omega) (by omega) fun a ha b hb => hk a (List.mem_cons_of_mem _ ha) b (List.mem_cons_of_mem _ hb)
    obtain ⟨t, ht, it⟩ := sign_eq x.f1 y.f1
    have hx : ∀ x y : S42, x = y ↔ x.f0 = y.f0 ∧ x.f1 = y.f1 ∧ x.f2 = y.f2 := fun x y => by cases x; cases y; simp
    have hmn : (n : Int) < mn (x0.length : Int) (x1.length : Int) := (mn_lt _ _ _).2 ⟨h1, g1⟩
    have htl : x.f1.toList = y.f1.toList ↔ t = 0 := by
      rw [it, toList_data, toList_data]; exact ⟨ba_ext, fun h => by rw [h]⟩
    by_cases c : x.f0 = y.f0
    · by_cases ct : t = 0
      · by_cases cv : v = 0
        · refine ⟨u, Evt.succ ?_, Evt.succ ?_, by rw [iu, List.cons.injEq, hx x y]; simp [c, it.1 ct, iv.1 cv]⟩
          · simp only [chiasmusref01_Compare.l0, if_pos h1, decide_eq_true g1]; refine Evt.succ ?_; simp only [chiasmusref01_Compare.j1, if_true, if_pos h1, if_pos h2, if_pos g1, rd_mid h3, rd_mid g3, h5, if_pos c, ht, Option.bind_some, if_pos ct]; refine Evt.bind hv ?_; simp only [if_pos cv]; exact hu
          · simp only [term_Compare.l0, if_pos hmn, if_pos h1, if_pos h2, if_pos g1, rd_mid h3, rd_mid g3, h5, if_pos c, if_pos (htl.2 ct)]; refine Evt.bind hv' ?_; simp only [if_pos cv]; exact hu'
        · refine ⟨v, Evt.succ ?_, Evt.succ ?_, ⟨fun h => absurd h cv, fun h => by injection h with h _; exact iv.2 (by rw [h])⟩⟩
          · simp only [chiasmusref01_Compare.l0, if_pos h1, decide_eq_true g1]; refine Evt.succ ?_; simp only [chiasmusref01_Compare.j1, if_true, if_pos h1, if_pos h2, if_pos g1, rd_mid h3, rd_mid g3, h5, if_pos c, ht, Option.bind_some, if_pos ct]; refine Evt.bind hv ?_; simp only [if_neg cv]; exact Evt.const _
          · simp only [term_Compare.l0, if_pos hmn, if_pos h1, if_pos h2, if_pos g1, rd_mid h3, rd_mid g3, h5, if_pos c, if_pos (htl.2 ct)]; refine Evt.bind hv' ?_; simp only [if_neg cv]; exact Evt.const _
      · refine ⟨t, Evt.succ ?_, Evt.succ ?_, ⟨fun h => absurd h ct, fun h => by injection h with h _; exact it.2 (by rw [h])⟩⟩
        · simp only [chiasmusref01_Compare.l0, if_pos h1, decide_eq_true g1]; refine Evt.succ ?_; simp only [chiasmusref01_Compare.j1, if_true, if_pos h1, if_pos h2, if_pos g1, rd_mid h3, rd_mid g3, h5, if_pos c, ht, Option.bind_some, if_neg ct]; exact Evt.const _
        · simp only [term_Compare.l0, if_pos hmn, if_pos h1, if_pos h2, if_pos g1, rd_mid h3, rd_mid g3, h5, if_pos c, if_neg (fun hh => ct (htl.1 hh)), cmps_eq, ht, Option.bind_some]; exact Evt.const _
    · refine ⟨if x.f0 < y.f0 then -1 else 1, Evt.succ ?_, Evt.succ ?_, ⟨fun h => by split at h <;> omega, fun h => by injection h with h _; exact absurd (by rw [h]) c⟩⟩
      · simp only [chiasmusref01_Compare.l0, if_pos h1, decide_eq_true g1]; refine Evt.succ ?_; simp only [chiasmusref01_Compare.j1, if_true, if_pos h1, if_pos h2, if_pos g1, rd_mid h3, rd_mid g3, h5, if_neg c]; exact Evt.ite (fun _ => Evt.const _) (fun _ => Evt.const _)
      · simp only [term_Compare.l0, if_pos hmn, if_pos h1, if_pos h2, if_pos g1, rd_mid h3, rd_mid g3, h5, if_neg c, cmpi_eq, Option.bind_some]
        have e : (if x.f0 < y.f0 then (-1 : Int) else if x.f0 > y.f0 then 1 else 0) = if x.f0 < y.f0 then -1 else 1 := by
          split
          · rfl
          · rw [if_pos (by omega)]
        rw [e]; exact Evt.const _
theorem cmp2_ev : ∀ (n : Nat) (l m : List S42), bk42s l ≤ n → n ≤ 1099511627776 → bk42s m ≤ 1099511627776 → ∃ v, Evt (fun k => chiasmusref01_Compare.f k l m) v ∧ Evt (fun k => term_Compare.f k l m) v ∧ (v = 0 ↔ l = m) := by
  intro n
  induction n using Nat.strongRecOn with
  | _ n ih =>
    intro l m h hn hm; have h1 := bk_len l; have h2 := bk_len m
    obtain ⟨v, hv, hv', iv⟩ := cmp2_loop (x0 := l) (x1 := m) (by omega) (by omega) l m 0 rfl rfl (by omega) (by omega) fun x hx y hy => by
      have := bk_mem hx; have := bk_mem hy; exact ih (bk42s x.f2) (by omega) x.f2 y.f2 (Nat.le_refl _) (by omega) (by omega)
    refine ⟨v, Evt.succ ?_, Evt.succ ?_, iv⟩
    · simp only [chiasmusref01_Compare.f]; exact hv
    · simp only [term_Compare.f]; exact hv'
theorem Equals_ev {l m : List S42} (h : bk42s l ≤ 1099511627776) (h2 : bk42s m ≤ 1099511627776) : ∃ v : Int, Evt (fun k => chiasmusref01_Compare.f k l m) v ∧ Evt (fun k => term_Compare.f k l m) v ∧ Evt (fun k => chiasmusref01_Equal.f k l m) (v == 0) ∧ Evt (fun k => term_Equal.f k l m) (v == 0) ∧ (v = 0 ↔ l = m) := by
  obtain ⟨v, hv, hv', iv⟩ := cmp2_ev _ l m (Nat.le_refl _) h h2; refine ⟨v, hv, hv', ?_, ?_, iv⟩
  · simp only [chiasmusref01_Equal.f]; exact Evt.bind hv (Evt.const _)
  · simp only [term_Equal.f]; exact Evt.bind hv' (Evt.const _)
end Go.Proofs.Ytdbjjaodkapikaa.TE
end
section
namespace Go.Proofs.Ytdbjjaodkapikaa.TE
open Go.RowKit Go.Shelf Go.Proofs.YtdbjjaodkapikaaW.PrintWords Go.Proofs.YtdbjjaodkapikaaW.PrintLast Go.Proofs.YtdbjjaodkapikaaW.PrintMore Go.Proofs.Ytdbjjaodkapikaa.Evs
set_option linter.unusedVariables false
set_option linter.unusedSimpArgs false
def OT (W : World) : Nat → List Tm → Value → Nat → Nat → Prop
  | 0, l, v, _, _ => l = [] ∧ ∃ A c, v = .slice A 0 c
  | n + 1, l, v, lo, hi => (l = [] ∧ ∃ A c, v = .slice A 0 c) ∨ ∃ (b c : Nat) (cs : Array Value) (f : Nat → Nat), v = .slice (some ⟨b, 0, none⟩) l.length c ∧ l.length ≤ c ∧ lo ≤ b ∧ b < f 0 ∧ f l.length ≤ hi ∧ (∀ j, j < l.length → f j ≤ f (j + 1)) ∧
      W.heap[b]? = some (.cells cs 42 (0, 0)) ∧ ∀ j x, l[j]? = some x → ∃ u, cs[j * 3]? = some (.int .i64 x.f0) ∧ cs[j * 3 + 1]? = some (.string x.f1) ∧ cs[j * 3 + 2]? = some u ∧ OT W n x.f2 u (f j) (f (j + 1))
theorem mono_le {f : Nat → Nat} {n : Nat} (h : ∀ j, j < n → f j ≤ f (j + 1)) : ∀ j k, j ≤ k → k ≤ n → f j ≤ f k := by
  intro j k hjk
  induction k with
  | zero => intro _; obtain rfl : j = 0 := by omega
            exact Nat.le_refl _
  | succ k ih =>
    intro hk
    rcases Nat.lt_or_ge j (k + 1) with hj | hj
    · exact Nat.le_trans (ih (by omega) (by omega)) (h k (by omega))
    · obtain rfl : j = k + 1 := by omega
      exact Nat.le_refl _
theorem idx_lt {α : Type} {l : List α} {j : Nat} {x : α} (h : l[j]? = some x) : j < l.length := (List.getElem?_eq_some_iff.1 h).1
theorem OT.frame {W W' : World} : ∀ (n : Nat) (l : List Tm) (v : Value) (lo hi : Nat), OT W n l v lo hi → (∀ k, lo ≤ k → k < hi → W'.heap[k]? = W.heap[k]?) → OT W' n l v lo hi
  | 0, l, v, lo, hi, h, _ => h
  | n + 1, l, v, lo, hi, h, hk => by
    rcases h with h | ⟨b, c, cs, f, h1, h2, h3, h4, h5, h6, h7, h8⟩
    · exact .inl h
    · have hm := mono_le h6; have hb := hm 0 l.length (Nat.zero_le _) (Nat.le_refl _); refine .inr ⟨b, c, cs, f, h1, h2, h3, h4, h5, h6, (hk b h3 (by omega)).trans h7, fun j x hj => ?_⟩; obtain ⟨u, a1, a2, a3, a4⟩ := h8 j x hj; have hl := idx_lt hj; have e1 := hm 0 j (Nat.zero_le _) (by omega); have e2 := hm (j + 1) l.length (by omega) (Nat.le_refl _); exact ⟨u, a1, a2, a3, OT.frame n _ _ _ _ a4 (fun k g1 g2 => hk k (by omega) (by omega))⟩
theorem OT.frame' {W W' : World} (n : Nat) (l : List Tm) (v : Value) (lo hi : Nat) (h : OT W n l v lo hi) (hk : ∀ k, lo ≤ k → k < hi → ∀ o, W.heap[k]? = some o → W'.heap[k]? = some o) : OT W' n l v lo hi := by
  induction n generalizing l v lo hi with
  | zero => exact h
  | succ n ih =>
    rcases h with h | ⟨b, c, cs, f, h1, h2, h3, h4, h5, h6, h7, h8⟩
    · exact .inl h
    · have hm := mono_le h6; have hb := hm 0 l.length (Nat.zero_le _) (Nat.le_refl _); refine .inr ⟨b, c, cs, f, h1, h2, h3, h4, h5, h6, hk b h3 (by omega) _ h7, fun j x hj => ?_⟩; obtain ⟨u, a1, a2, a3, a4⟩ := h8 j x hj; have hl := idx_lt hj; have e1 := hm 0 j (Nat.zero_le _) (by omega); have e2 := hm (j + 1) l.length (by omega) (Nat.le_refl _); exact ⟨u, a1, a2, a3, ih _ _ _ _ a4 (fun k g1 g2 => hk k (by omega) (by omega))⟩
theorem OT.mono {W : World} : ∀ {n : Nat} {l : List Tm} {v : Value} {lo hi lo' hi' : Nat}, OT W n l v lo hi → lo' ≤ lo → hi ≤ hi' → OT W n l v lo' hi'
  | 0, l, v, lo, hi, lo', hi', h, _, _ => h
  | n + 1, l, v, lo, hi, lo', hi', h, h1, h2 => by
    rcases h with h | ⟨b, c, cs, f, a1, a2, a3, a4, a5, a6, a7, a8⟩
    · exact .inl h
    · exact .inr ⟨b, c, cs, f, a1, a2, by omega, a4, by omega, a6, a7, a8⟩
theorem OT.fuel {W : World} : ∀ {n m : Nat} {l : List Tm} {v : Value} {lo hi : Nat}, OT W n l v lo hi → n ≤ m → OT W m l v lo hi
  | 0, 0, l, v, lo, hi, h, _ => h
  | 0, m + 1, l, v, lo, hi, h, _ => .inl h
  | n + 1, 0, l, v, lo, hi, h, hm => absurd hm (by omega)
  | n + 1, m + 1, l, v, lo, hi, h, hm => by
    rcases h with h | ⟨b, c, cs, f, a1, a2, a3, a4, a5, a6, a7, a8⟩
    · exact .inl h
    · refine .inr ⟨b, c, cs, f, a1, a2, a3, a4, a5, a6, a7, fun j x hj => ?_⟩; obtain ⟨u, b1, b2, b3, b4⟩ := a8 j x hj; exact ⟨u, b1, b2, b3, OT.fuel b4 (by omega)⟩
theorem OT.form {W : World} {n : Nat} {l : List Tm} {v : Value} {lo hi : Nat} (h : OT W n l v lo hi) : ∃ A c, v = .slice A l.length c := by
  cases n with
  | zero => obtain ⟨rfl, A, c, rfl⟩ := h; exact ⟨A, c, rfl⟩
  | succ n =>
    rcases h with ⟨rfl, A, c, rfl⟩ | ⟨b, c, cs, f, a1, _⟩
    · exact ⟨A, c, rfl⟩
    · exact ⟨_, _, a1⟩
theorem bk_kid {l : List Tm} {x : Tm} (h : x ∈ l) {B : Nat} (hb : bk42s l ≤ B) : bk42s x.f2 ≤ B ∧ x.f1.size ≤ B := by
  have := bk_mem h
  omega
theorem bk_len' {l : List Tm} {B : Nat} (hb : bk42s l ≤ B) : l.length ≤ B := by
  have := bk_len l
  omega
theorem OT.reads {W : World} : ∀ {n : Nat} {l : List Tm} {v : Value} {lo hi : Nat}, OT W n l v lo hi → bk42s l ≤ 1048576 → ∃ A c, v = .slice A l.length c ∧ l.length ≤ c ∧ Kd.C k42 W A l.length l
  | 0, l, v, lo, hi, h, _ => by
    obtain ⟨rfl, A, c, rfl⟩ := h; exact ⟨A, c, rfl, Nat.zero_le _, rfl, by decide, fun hp => absurd hp (by decide)⟩
  | n + 1, l, v, lo, hi, h, hb => by
    rcases h with ⟨rfl, A, c, rfl⟩ | ⟨b, c, cs, f, a1, a2, a3, a4, a5, a6, a7, a8⟩
    · exact ⟨A, c, rfl, Nat.zero_le _, rfl, by decide, fun hp => absurd hp (by decide)⟩
    · refine ⟨some ⟨b, 0, none⟩, c, a1, a2, rfl, by have := bk_len' hb; omega, fun hp => ⟨_, rfl, fun j x hj => ?_⟩⟩; obtain ⟨u, b1, b2, b3, b4⟩ := a8 j x hj; have hmem : x ∈ l := List.mem_of_getElem? hj; obtain ⟨A2, c2, rfl, l2, g2⟩ := OT.reads b4 (bk_kid hmem hb).1; refine ⟨[.int .i64 x.f0, .string x.f1, .slice A2 x.f2.length c2], rfl, k42_mk W x l2 g2, fun i u hu => ?_⟩; rw [add_plain]; refine (q9 a7 _).trans ?_
      match i, hu with
      | 0, hu => exact b1.trans hu
      | 1, hu => exact b2.trans hu
      | 2, hu => exact b3.trans hu
theorem inner_of {R : Tm → List Value → Prop} {w : World} {ad : Addr} : ∀ (l : List Tm) (o : Nat), (∀ j p, l[j]? = some p → ∃ c, c.length = 3 ∧ R p c ∧ ∀ i u, c[i]? = some u → w.cell? (ad.add ((o + j) * 3 + i)) = some u) →
    ∃ cs, Reps R 3 l cs ∧ ∀ i u, cs[i]? = some u → w.cell? (ad.add (o * 3 + i)) = some u
  | [], o, _ => ⟨[], Reps.none _ _, fun i u h => by simp at h⟩
  | x :: r, o, h => by
    obtain ⟨c, hc, hR, hcell⟩ := h 0 x rfl
    obtain ⟨cs, hr, hcs⟩ := inner_of r (o + 1) (fun j p hj => by
      obtain ⟨c', h1, h2, h3⟩ := h (j + 1) p (by simpa using hj); refine ⟨c', h1, h2, fun i u hu => ?_⟩; have := h3 i u hu
      rwa [show o + 1 + j = o + (j + 1) by omega])
    refine ⟨c ++ cs, Reps.front hR hc hr rfl, fun i u hu => ?_⟩
    rcases Nat.lt_or_ge i c.length with hi | hi
    · rw [List.getElem?_append_left hi] at hu; have := hcell i u hu
      simpa using this
    · rw [List.getElem?_append_right hi] at hu; have := hcs (i - c.length) u hu
      rwa [show (o + 1) * 3 + (i - c.length) = o * 3 + i by omega] at this
def Row0 (w0 : World) (l : List Tm) (cs : Array Value) (q : Nat) : Prop :=
  ∀ j x, q ≤ j → l[j]? = some x → ∃ A2 c2, cs[j * 3]? = some (.int .i64 x.f0) ∧ cs[j * 3 + 1]? = some (.string x.f1) ∧ cs[j * 3 + 2]? = some (.slice A2 x.f2.length c2) ∧ x.f2.length ≤ c2 ∧ Kd.C k42 w0 A2 x.f2.length x.f2
def Cloned (w0 W W' : World) (l : List Tm) (v : Value) : Prop :=
  (l = [] ∧ ∃ A c, v = .slice A 0 c) ∨ ∃ b c cs, v = .slice (some ⟨b, 0, none⟩) l.length c ∧ l.length ≤ c ∧ W.heap.size ≤ b ∧ W'.heap[b]? = some (.cells cs 42 (0, 0)) ∧ Row0 w0 l cs 0
theorem cloned_of {w0 W W' : World} {l : List Tm} {v : Value} {inner : List Value} (h : W'.ownsRow W.heap.size 42 3 v l.length inner) (hr : Reps (k42.K w0) 3 l inner) : Cloned w0 W W' l v := by
  rcases h.2 with ⟨rfl, h0⟩ | ⟨b, c, cs, rfl, hb, hh, hc, _, _, ht⟩
  · exact .inl ⟨List.length_eq_zero_iff.1 h0, none, 0, rfl⟩
  · refine .inr ⟨b, c, cs, rfl, hc, hb, hh, fun j x _ hj => ?_⟩; have hl := idx_lt hj; obtain ⟨A2, c2, he, l2, g2⟩ := k42_open (hr.2 j x hj)
    have key : ∀ i, i < 3 → cs[j * 3 + i]? = ([.int .i64 x.f0, .string x.f1, .slice A2 x.f2.length c2] : List Value)[i]? := by
      intro i hi; rw [← he, List.getElem?_take, if_pos hi, List.getElem?_drop, ← ht, List.getElem?_take, if_pos (by omega)]; simp
    exact ⟨A2, c2, key 0 (by decide), key 1 (by decide), key 2 (by decide), l2, g2⟩
theorem info_term' : (Try.prog.info? 42).map (fun i => (i.zero, i.size, i.bytes)) = some (some (.agg #[.int .i64 0, .string ⟨#[]⟩, .slice none 0 0]), 3, 48) := by kernel_rfl
set_option maxRecDepth 100000 in
set_option maxHeartbeats 4000000 in
theorem Clone.calls (w0 : World) (A : Option Addr) (c : Nat) (l : List Tm) (W : World) (hC : Kd.C k42 w0 A l.length l) (hc : l.length ≤ c) (hB : Below w0.heap.size w0 W) (h8 : l.length ≤ 1048576) :
    Calls Try.prog 71 #[.slice A l.length c] W fun e W' => ∃ v, e = .returned v ∧ Cloned w0 W W' l v ∧ Below W.heap.size W W' := by
  have heq := fun (W : World) (a : Option Addr) (n c : Nat) => Lib.run_eql_slice_nil (P := Try.prog) W 22 42 a n c 0 0 Try.underlying22
  cases A with
  | none =>
    have hn : l = [] := by
      rcases l with _ | ⟨x, l⟩
      · rfl
      · obtain ⟨ad, he, _⟩ := hC.2.2 (by simp); cases he
    subst hn
    go_enter Try.func71, Try.ntmps71
    go_wp2_with fail
    go_ret; exact ⟨_, rfl, .inl ⟨rfl, _, _, rfl⟩, Below.refl _ _⟩
  | some ad =>
    obtain ⟨inner, hr, hcell⟩ : ∃ cs, Reps (k42.K w0) 3 l cs ∧ ∀ i u, cs[i]? = some u → w0.cell? (ad.add i) = some u := by
      rcases Nat.eq_zero_or_pos l.length with h0 | h0
      · have : l = [] := List.length_eq_zero_iff.1 h0; subst this; exact ⟨[], Reps.none _ _, fun i u h => by simp at h⟩
      · obtain ⟨ad', he, hh⟩ := hC.2.2 h0
        obtain rfl : ad = ad' := by injection he
        obtain ⟨cs, h1, h2⟩ := inner_of (R := k42.K w0) l 0 (fun j p hj => by rw [show 0 + j = j by omega]; exact hh j p hj); exact ⟨cs, h1, fun i u hu => by simpa using h2 i u hu⟩
    have hown := World.ownsRow_made (e := 42) (size := 3) (base := W.heap.size) W #[] 0 (Nat.le_refl _) (by decide) rfl; have hb0 : Below W.heap.size W (W.alloc (.cells #[] 42)) := (Below.refl _ _).alloc (Nat.le_refl _) _
    have hcell' : ∀ i u, inner[i]? = some u → (W.alloc (.cells #[] 42)).cell? (ad.add i) = some u := fun i u hu => pw_cell_below (q14 hB hb0) (hcell i u hu)
    have hone : ∀ u ∈ inner, u.oneCell' = true := Kd.reps_one hr (by decide) (fun p c h => k42.K_one h); have HO := Aside0.mk hown; have HB0 := Aside0.mk hb0; have HCELL := Aside0.mk hcell'; have HONE := Aside0.mk hone; have HR := Aside0.mk hr; have H8 := Aside0.mk h8; clear hC hB h8 hr hcell hown hb0 hcell' hone; obtain ⟨i0, hi, hz0, hz1, hz2⟩ := info_parts info_term'
    go_enter Try.func71, Try.ntmps71
    go_wp2_with (at_builtin; refine wpList_append_own _ rfl _ _ 22 rfl W.heap.size 42 i0 (.agg #[.int .i64 0, .string ⟨#[]⟩, .slice none 0 0]) 3 48 Try.underlying22 hi hz0 hz1 hz2 rfl (by decide) _ _ _ rfl HO.out ad l.length c inner rfl HR.out.1 HCELL.out HONE.out (by have := H8.out; simp only [maxLen]; omega) (by have := H8.out; omega) (by simp) ?_; intro v5 w5 hown5 hgrow5 _; have HO5 := Aside0.mk hown5; have HB5 := Aside0.mk (HB0.out.grown hgrow5 HB0.out.size (fun k hk => (HO.out.lt k hk).1)); clear hown5 hgrow5)
    go_ret; exact ⟨_, rfl, cloned_of (by simpa using HO5.out) HR.out, HB5.out⟩
theorem below_elder {B : Nat} {W W' : World} (h : Below B W W') (b i : Nat) (v : Value) (hb : B ≤ b) : Below B W (W'.setCell ⟨b, i, none⟩ v) :=
  ⟨h.os, h.tape, h.output, by simpa [World.setCell] using h.size, fun k hk => (Below.heap_setCell W' ⟨b, i, none⟩ v k (fun e => by have : k = b := e; omega)).trans (h.block k hk)⟩
structure Cp (w0 wr : World) (k : Nat) (l : List Tm) (b q : Nat) (cs : Array Value) (f : Nat → Nat) : Prop where
  row : wr.heap[b]? = some (.cells cs 42 (0, 0))
  low : b < f 0
  top : f q = wr.heap.size
  mono : ∀ j, j < q → f j ≤ f (j + 1)
  done : ∀ j x, j < q → l[j]? = some x → ∃ u, cs[j * 3]? = some (.int .i64 x.f0) ∧ cs[j * 3 + 1]? = some (.string x.f1) ∧ cs[j * 3 + 2]? = some u ∧ OT wr k x.f2 u (f j) (f (j + 1))
  todo : Row0 w0 l cs q
theorem set_same {cs : Array Value} {i j : Nat} {u v : Value} (h : cs[i]? = some u) (hij : j = i) : (cs.setIfInBounds j v)[i]? = some v := by
  subst hij; have hl := (Array.getElem?_eq_some_iff.1 h).1; simp [hl]
theorem set_other {cs : Array Value} {i j : Nat} {v : Value} (hij : j ≠ i) : (cs.setIfInBounds j v)[i]? = cs[i]? := by
  simp [Array.getElem?_setIfInBounds, hij]
theorem Cp.next {w0 wr w2 : World} {k : Nat} {l : List Tm} {b q : Nat} {cs : Array Value} {f : Nat → Nat} {x : Tm} {u : Value} (h : Cp w0 wr k l b q cs f) (hx : l[q]? = some x) (hb : Below wr.heap.size wr w2) (ho : OT w2 k x.f2 u wr.heap.size w2.heap.size) :
    Cp w0 (w2.setCell ⟨b, q * 3 + 2, none⟩ u) k l b (q + 1) (cs.setIfInBounds (q * 3 + 2) u) (fun j => if j ≤ q then f j else w2.heap.size) := by
  have hbl := blk_lt h.row; have hrow := (hb.block b hbl).trans h.row; have hm := mono_le h.mono
  have hsz : (w2.setCell ⟨b, q * 3 + 2, none⟩ u).heap.size = w2.heap.size := by simp [World.setCell]
  have hfar : ∀ i, i ≠ b → (w2.setCell ⟨b, q * 3 + 2, none⟩ u).heap[i]? = w2.heap[i]? := fun i hi => Below.heap_setCell w2 ⟨b, q * 3 + 2, none⟩ u i hi
  have hf0 : b < wr.heap.size := hbl; obtain ⟨A2, c2, t1, t2, t3, _, _⟩ := h.todo q x (Nat.le_refl _) hx; refine ⟨blk_set hrow _ _, by simpa using h.low, by rw [hsz]; exact if_neg (by omega), fun j hj => ?_, fun j y hj hy => ?_, fun j y hj hy => ?_⟩
  · rcases Nat.lt_or_ge j q with h1 | h1
    · rw [if_pos (by omega), if_pos (by omega)]; exact h.mono j h1
    · obtain rfl : j = q := by omega
      rw [if_pos (Nat.le_refl _), if_neg (by omega), h.top]; exact hb.size
  · rcases Nat.lt_or_ge j q with h1 | h1
    · obtain ⟨v, a1, a2, a3, a4⟩ := h.done j y h1 hy; refine ⟨v, (set_other (by omega)).trans a1, (set_other (by omega)).trans a2, (set_other (by omega)).trans a3, ?_⟩; rw [if_pos (by omega), if_pos (by omega)]; refine OT.frame k _ _ _ _ a4 (fun i g1 g2 => ?_); have e1 := hm 0 j (Nat.zero_le _) (by omega); have e2 := hm (j + 1) q (by omega) (Nat.le_refl _); have e3 := h.top; have e4 := h.low; exact (hfar i (by omega)).trans (hb.block i (by omega))
    · obtain rfl : j = q := by omega
      obtain rfl : x = y := by rw [hx] at hy; injection hy
      refine ⟨u, (set_other (by omega)).trans t1, (set_other (by omega)).trans t2, set_same t3 rfl, ?_⟩; rw [if_pos (Nat.le_refl _), if_neg (by omega), h.top]; exact OT.frame k _ _ _ _ ho (fun i g1 g2 => hfar i (by omega))
  · obtain ⟨A3, c3, s1, s2, s3, s4, s5⟩ := h.todo j y (by omega) hy; exact ⟨A3, c3, (set_other (by omega)).trans s1, (set_other (by omega)).trans s2, (set_other (by omega)).trans s3, s4, s5⟩
theorem Cp.whole {w0 wr : World} {k c : Nat} {l : List Tm} {b lo : Nat} {cs : Array Value} {f : Nat → Nat} (h : Cp w0 wr k l b l.length cs f) (hc : l.length ≤ c) (hlo : lo ≤ b) : OT wr (k + 1) l (.slice (some ⟨b, 0, none⟩) l.length c) lo wr.heap.size :=
  .inr ⟨b, c, cs, f, rfl, hc, hlo, h.low, by rw [h.top]; exact Nat.le_refl _, h.mono, h.row, fun j x hj => h.done j x (idx_lt hj) hj⟩
set_option maxRecDepth 100000 in
set_option maxHeartbeats 4000000 in
theorem Copy.calls (w0 : World) : ∀ (k : Nat) (A : Option Addr) (c : Nat) (l : List Tm) (W : World), SizeOf.sizeOf l ≤ k → Kd.C k42 w0 A l.length l → l.length ≤ c → Below w0.heap.size w0 W → bk42s l ≤ 1048576 →
    Calls Try.prog 29 #[.slice A l.length c] W fun e W' => ∃ v, e = .returned v ∧ OT W' k l v W.heap.size W'.heap.size ∧ Below W.heap.size W W' := by
  intro k
  induction k with
  | zero => intro A c l W hk; cases l <;> simp at hk
  | succ k ih =>
    intro A c l W hk hC hc hB hbk; have hlen := bk_len' hbk; have hcl := Clone.calls w0 A c l W hC hc hB hlen; have HCL := Aside0.mk hcl; have HB := Aside0.mk hB; have HK := Aside0.mk hk; have HBK := Aside0.mk hbk; have HLEN := Aside0.mk hlen; have IH := Aside0.mk ih; clear hcl hC hc hB hk hbk ih hlen
    go_enter Try.func29, Try.ntmps29
    go_wp2_with fail
    refine HCL.out.mono ?_; rintro e w1 ⟨v, rfl, hcd, hb1⟩; have HB1 := Aside0.mk hb1; clear hb1
    rcases hcd with ⟨rfl, A1, c1, rfl⟩ | ⟨b, c1, cs1, rfl, hc1, hb, hrow1, htodo⟩
    · go_wp2_with fail
      go_loopw [9] (fun i wr => i = .int .i64 ((0 : Nat) : Int) ∧ Aside0 (Below W.heap.size W wr)) (fun i wr => 0)
      case atStart => exact ⟨rfl, HB1⟩
      case round =>
        obtain ⟨rfl, HBR⟩ := hrel
        go_wp2_with fail
        go_ret; exact ⟨_, rfl, .inl ⟨rfl, _, _, rfl⟩, HBR.out⟩
    · have h0 : Cp w0 w1 k l b 0 cs1 (fun _ => w1.heap.size) := ⟨hrow1, blk_lt hrow1, rfl, fun _ _ => Nat.le_refl _, fun j x hj => absurd hj (by omega), htodo⟩; have H0 := Aside0.mk h0; have HBB := Aside0.mk hb; have HC1 := Aside0.mk hc1; clear h0 hb hc1 hrow1 htodo
      go_wp2_with fail
      go_loopw [9] (fun i wr => ∃ (q : Nat) (cs : Array Value) (f : Nat → Nat), i = .int .i64 q ∧ q ≤ l.length ∧ Aside0 (Cp w0 wr k l b q cs f) ∧ Aside0 (Below W.heap.size W wr)) (fun i wr => l.length - (intOf i).toNat)
      case atStart => exact ⟨0, cs1, _, rfl, Nat.zero_le _, H0, HB1⟩
      case round =>
        obtain ⟨q, cs, f, rfl, hq, HCP, HBR⟩ := hrel; have hq0 : (0 : Int) ≤ (q : Int) := Int.natCast_nonneg _
        by_cases hlt : q < l.length
        · have e1 : decide ((q : Int) < (l.length : Int)) = true := decide_eq_true (by omega)
          have hqi : (q : Int) < (l.length : Int) := by omega
          obtain ⟨x, hx⟩ : ∃ x, l[q]? = some x := ⟨_, List.getElem?_eq_getElem hlt⟩; have HX := Aside0.mk hx; have hmem : x ∈ l := List.mem_of_getElem? hx; have HMEM := Aside0.mk hmem; obtain ⟨A2, c2, t1, t2, t3, t4, t5⟩ := HCP.out.todo q x (Nat.le_refl _) hx; have T4 := Aside0.mk t4; have T5 := Aside0.mk t5; have x2 : wr.cell? ⟨b, q * 3 + 2, none⟩ = some (.slice A2 x.f2.length c2) := (q9 HCP.out.row _).trans t3; have T3 := Aside0.mk t3; have hbl : b < wr.heap.size := blk_lt HCP.out.row
          have hw : IntKind.i64.wrap ((q : Int) + 1) = (q : Int) + 1 := by have := HLEN.out; rw [i64_w]; rw [wrap64_id (by omega) (by omega)]
          have hsz : SizeOf.sizeOf x.f2 ≤ k := by
            have h1 := List.sizeOf_lt_of_mem hmem
            have h2 : SizeOf.sizeOf x.f2 < SizeOf.sizeOf x := by cases x; simp; omega
            have := HK.out
            omega
          have HSZ := Aside0.mk hsz; clear hx hmem t1 t2 t3 t4 t5 hsz
          go_wp2_with fail
          refine (IH.out A2 c2 x.f2 wr HSZ.out T5.out T4.out (q14 HB.out HBR.out) (bk_kid HMEM.out HBK.out).1).mono ?_; rintro e w2 ⟨v2, rfl, ho2, hb2⟩; obtain ⟨A3, c3, rfl⟩ := ho2.form; have y2 : w2.cell? ⟨b, q * 3 + 2, none⟩ = some (.slice A2 x.f2.length c2) := (q9 ((hb2.block b hbl).trans HCP.out.row) _).trans T3.out; have yf : w2.frozen? ⟨b, q * 3 + 2, none⟩ = false := q15 ((hb2.block b hbl).trans HCP.out.row) _; have HCP2 := Aside0.mk (HCP.out.next HX.out hb2 ho2); have HBR2 := Aside0.mk (below_elder (q14 HBR.out hb2) b (q * 3 + 2) (.slice A3 x.f2.length c3) HBB.out); clear hb2 ho2 x2
          go_wp2_with fail
          go_roundw
          case rel => exact ⟨q + 1, _, _, by go_num, by omega, HCP2, HBR2⟩
          case measure => simp [intOf]; omega
        · have e1 : decide ((q : Int) < (l.length : Int)) = false := decide_eq_false (by omega); have e1' : decide (q < l.length) = false := decide_eq_false hlt
          have hqe : q = l.length := by omega
          have HQE := Aside0.mk hqe; clear hqe hlt
          go_wp2_with fail
          go_ret; have hqe := HQE.out; have hcp := HCP.out; rw [hqe] at hcp; exact ⟨_, rfl, hcp.whole HC1.out HBB.out, HBR.out⟩
end Go.Proofs.Ytdbjjaodkapikaa.TE
end
section
namespace Go.Proofs.Ytdbjjaodkapikaa.TE
open Go.RowKit Go.Shelf Go.Proofs.YtdbjjaodkapikaaW.PrintWords Go.Proofs.YtdbjjaodkapikaaW.PrintLast Go.Proofs.YtdbjjaodkapikaaW.PrintMore Go.Proofs.Ytdbjjaodkapikaa.Evs
set_option linter.unusedVariables false
set_option linter.unusedSimpArgs false
theorem zcells (m : Nat) : (Builtin.zeroCells (Value.agg #[.int .i64 0, .string ⟨#[]⟩, .slice none 0 0]).cells m).size = m * 3 := by
  simp [Builtin.zeroCells, Value.cells]
set_option maxRecDepth 100000 in
set_option maxHeartbeats 4000000 in
theorem grow.calls (n : Nat) (w : World) (hn : n * 48 ≤ 140737488355328) :
    Calls Try.prog 74 #[.slice none 0 0, .int .i64 n] w fun e w' => ∃ v, e = .returned v ∧ Kd.N k42 42 w' w.heap.size (fun k => w.heap.size ≤ k) v [] ∧ Below w.heap.size w w' := by
  have h1 : ¬ ((n : Int) < 0) := by omega
  by_cases h0 : n = 0
  · subst h0
    go_enter Try.func74, Try.ntmps74
    go_wp2
    go_ret; exact ⟨_, rfl, Kd.N_nil _ _ _ _ _, Below.refl _ _⟩
  · obtain ⟨i0, hi, hz0, hz1, hz2⟩ := info_parts info_term'
    have hrz : ∀ ty, (Builtin.append_ #[22, 3] ty #[.slice none 0 0, .int .i64 (n : Int)]).run Try.prog w = .ok (.slice (some ⟨w.heap.size, 0, none⟩) n (grownCap w n 0 42)) (w.drew.alloc (.cells ((#[] : Array Value) ++ Builtin.zeroCells (.agg #[.int .i64 0, .string ⟨#[]⟩, .slice none 0 0] : Value).cells n ++ Builtin.zeroCells (.agg #[.int .i64 0, .string ⟨#[]⟩, .slice none 0 0] : Value).cells (grownCap w n 0 42 - n)) 42)) := fun ty => by
      have h := Lib.run_append_grow_zeros w 22 3 ty 42 i0 (.agg #[.int .i64 0, .string ⟨#[]⟩, .slice none 0 0]) .i64 .i64 Try.underlying22 Try.underlying3 hi hz0 none 0 0 [] (run_firstCells_none w.drew i0.size 0 0 0) n (by omega) (by omega) (by omega) (by omega) (by rw [hz2]; omega)
        (by rw [Nat.zero_add]; exact growslice_fits (by omega) (by rw [hz2]; omega))
      rw [Nat.zero_add] at h; exact h
    have hG := grownCap_ge w n 0 42; have hG63 := grownCap_le_maxLen w n 0 42 (by unfold maxLen; omega); obtain ⟨G, hGe⟩ : ∃ G, G = grownCap w n 0 42 := ⟨_, rfl⟩; rw [← hGe] at hrz hG hG63; have hG' : G ≤ 9223372036854775807 := hG63; clear hGe; have HG := Aside0.mk hG63; clear hG63
    go_enter Try.func74, Try.ntmps74
    go_wp2_with (at_builtin; refine Lib.wpList_append_run _ rfl _ _ _ _ rfl _ _ rfl rfl _ _ (hrz _) ?_)
    go_ret; refine ⟨_, rfl, Kd.R_N ⟨fun k hk => (by simp [Value.ownBlock] at hk; omega), [], ⟨rfl, .inr ⟨w.heap.size, G, _, rfl, Nat.le_refl _, World.alloc_heap_new w.drew _, Nat.zero_le _, HG.out, ?_, rfl⟩⟩, Reps.none _ _⟩, ((Below.refl _ w).drew).alloc (by simp) _⟩; rw [Array.size_append]; show (Builtin.zeroCells (Value.agg #[.int .i64 0, .string ⟨#[]⟩, .slice none 0 0]).cells n).size + (Builtin.zeroCells (Value.agg #[.int .i64 0, .string ⟨#[]⟩, .slice none 0 0]).cells (G - n)).size = G * 3; rw [zcells, zcells]
    omega
def lens {α : Type} : List (List α) → Nat
  | [] => 0
  | x :: r => x.length + lens r
theorem lens_append {α : Type} : ∀ a b : List (List α), lens (a ++ b) = lens a + lens b
  | [], b => by simp [lens]
  | x :: r, b => by simp only [List.cons_append, lens, lens_append r b]; omega
theorem lens_snoc {α : Type} (ls : List (List α)) (k : Nat) (h : k < ls.length) : lens (ls.take (k + 1)) = lens (ls.take k) + ls[k].length := by
  rw [List.take_succ_eq_append_getElem h, lens_append]; simp [lens]
theorem lens_take {α : Type} (ls : List (List α)) (k : Nat) : lens (ls.take k) ≤ lens ls := by
  have := lens_append (ls.take k) (ls.drop k); rw [List.take_append_drop] at this; omega
theorem flat_snoc {α : Type} (ls : List (List α)) (k : Nat) (h : k < ls.length) : (ls.take (k + 1)).flatten = (ls.take k).flatten ++ ls[k] := by
  rw [List.take_succ_eq_append_getElem h, List.flatten_append]; simp
theorem flat_lens {α : Type} : ∀ ls : List (List α), ls.flatten.length = lens ls
  | [] => rfl
  | x :: r => by simp only [List.flatten_cons, List.length_append, lens, flat_lens r]
theorem F_at {α : Type} {d : Kd α} {e : Nat} {w : World} {ok : Nat → Prop} {A : Option Addr} {ls : List (List α)} (h : Kd.F (Kd.slice e d) w ok A ls.length ls) (k : Nat) (hk : k < ls.length) :
    ∃ ad A2 c2, A = some ad ∧ w.cell? (ad.add k) = some (.slice A2 (ls[k]).length c2) ∧ (ls[k]).length ≤ c2 ∧ Kd.F d w ok A2 (ls[k]).length ls[k] := by
  obtain ⟨ad, c, rfl, hl, hK, hc, _⟩ := Kd.F_get h ls[k] (k : Int) (by omega) (by omega)
  have hg : ls.getD (k : Int).toNat ls[k] = ls[k] := by simp [List.getD_eq_getElem?_getD, List.getElem?_eq_getElem hk]
  rw [hg] at hK; obtain ⟨A2, c2, rfl, h1, h2⟩ := Kd.FK_slice_open hK; have := hc 0 _ rfl; rw [Int.toNat_natCast] at this; exact ⟨ad, A2, c2, rfl, by simpa [Kd.slice] using this, h1, h2⟩
set_option maxRecDepth 100000 in
set_option maxHeartbeats 4000000 in
theorem concat.calls (A : Option Addr) (c : Nat) (ls : List (List Tm)) (w : World) (P : Nat → Prop) (hC : Kd.F (Kd.slice 42 k42) w P A ls.length ls) (hb : lens ls * 48 ≤ 140737488355328) :
    Calls Try.prog 35 #[.slice A ls.length c] w fun e w' => ∃ v, e = .returned v ∧ Kd.N k42 42 w' w.heap.size (fun k => P k ∨ w.heap.size ≤ k) v ls.flatten ∧ Below w.heap.size w w' := by
  have hm := Kd.F_max hC; have HC := Aside0.mk hC; clear hC
  go_enter Try.func35, Try.ntmps35
  go_wp2
  go_loop [3, 11] (fun s i => ∃ k : Nat, k ≤ ls.length ∧ i = .int .i64 k ∧ s = .int .i64 (lens (ls.take k))) (fun _ i => ls.length - (intOf i).toNat)
  case atStart => exact ⟨0, Nat.zero_le _, rfl, rfl⟩
  case round =>
    obtain ⟨k, hk, rfl, rfl⟩ := hrel; have hlt := lens_take ls k
    by_cases hlk : k < ls.length
    · obtain ⟨ad, A2, c2, rfl, hcell, hl2, hC2⟩ := F_at HC.out k hlk; have hsn := Aside0.mk (lens_snoc ls k hlk); have hlt2 := lens_take ls (k + 1); rw [hsn.out] at hlt2; obtain ⟨m, hm2⟩ : ∃ m, (ls[k]).length = m := ⟨_, rfl⟩; rw [hm2] at hcell hlt2; have HM := Aside0.mk hm2; clear hm2 hC2 hl2
      go_wp2
      go_round
      case rel => exact ⟨k + 1, by omega, by go_num, by rw [hsn.out, HM.out]; go_num⟩
      case measure => simp [intOf]; omega
    · obtain rfl : k = ls.length := by omega
      rw [List.take_length] at *
      go_wp2_with (go_at_call 74; with_reducible refine (grow.calls (lens ls) _ hb).mono ?_; rintro e w1 ⟨v, rfl, hR, hB⟩; have HR : Aside0 (Kd.N k42 42 w1 w.heap.size (fun k => P k ∨ w.heap.size ≤ k) v ([] : List Tm)) := ⟨Kd.N_mono hR (fun k hk => .inr hk)⟩; have HB := Aside0.mk hB; clear hR hB)
      have hn0 : ∀ (b : Value), b = v → True := fun _ _ => trivial
      go_loopw [6, 27] (fun u i wr => ∃ k : Nat, k ≤ ls.length ∧ i = .int .i64 k ∧ Aside0 (Kd.N k42 42 wr w.heap.size (fun k => P k ∨ w.heap.size ≤ k) u (ls.take k).flatten) ∧ Aside0 (Below w.heap.size w wr)) (fun _ i _ => ls.length - (intOf i).toNat)
      case atStart => exact ⟨0, Nat.zero_le _, rfl, HR, HB⟩
      case round =>
        clear HR HB hn0; obtain ⟨k, hk, rfl, HR, HB⟩ := hrel; have hlt := lens_take ls k
        by_cases hlk : k < ls.length
        · obtain ⟨ad, A2, c2, rfl, hcell, hl2, hC2⟩ := F_at HC.out k hlk; replace hcell := pw_cell_below HB.out hcell; have HC2 := Aside0.mk (Kd.F_old hC2 HB.out); have hsn := Aside0.mk (lens_snoc ls k hlk); have hfs := Aside0.mk (flat_snoc ls k hlk); have hlt2 := lens_take ls (k + 1); rw [hsn.out] at hlt2; have hfl := flat_lens (ls.take k); obtain ⟨m, hm2⟩ : ∃ m, (ls[k]).length = m := ⟨_, rfl⟩; rw [hm2] at hcell hlt2 hl2 HC2; have HL : Aside0 (((ls.take k).flatten.length + m) * 48 ≤ 140737488355328) := ⟨by rw [hfl]; omega⟩; have HOK : Aside0 (∀ v : Value, Kd.N k42 42 wr w.heap.size (fun k => P k ∨ w.heap.size ≤ k) v (ls.take k).flatten → ∀ j, (P j ∧ j < w.heap.size) → (P j ∨ w.heap.size ≤ j) ∧ some j ≠ v.ownBlock) := ⟨fun v hN j hj => ⟨.inl hj.1, fun e => by have := Kd.N_base hN j e.symm; have := hj.2; omega⟩⟩; clear hm2 hC2 hfl hlt2 hlt
          go_wp2_with ((with_reducible refine gate_builtin (b := .append) (xs := #[.tmp 31, .tmp 32]) rfl ?_); at_builtin; refine Kd.N_append_rows k42 (w0 := w) w.heap.size rfl (.tmp 31) (.tmp 32) 22 42 (.agg #[.int .i64 0, .string ⟨#[]⟩, .slice none 0 0]) 48 rfl Try.underlying22 info_term' rfl (by decide) (by decide) _ ((ls.take k).flatten) (ls[k]) A2 m c2 (fun k => P k ∨ w.heap.size ≤ k) (fun k => P k ∧ k < w.heap.size) rfl rfl HR.out HC2.out (HOK.out _ HR.out) (fun k h => .inr (Nat.le_trans HB.out.size h)) HB.out HB.out.size HL.out ?_; intro v1 w2 ho hb2 hg hat; have HO := Aside0.mk ho; have HB2 := Aside0.mk hb2; clear ho hb2 hg hat)
          go_roundw
          case rel => exact ⟨k + 1, by omega, by go_num, by rw [hfs.out]; exact HO, HB2⟩
          case measure => simp [intOf]; omega
        · obtain rfl : k = ls.length := by omega
          rw [List.take_length] at HR
          go_wp2
          go_ret; exact ⟨_, rfl, HR.out, HB.out⟩
end Go.Proofs.Ytdbjjaodkapikaa.TE
end
section
namespace Go.Proofs.Ytdbjjaodkapikaa.TE
open Go.RowKit Go.Shelf Go.Proofs.YtdbjjaodkapikaaW.PrintWords Go.Proofs.YtdbjjaodkapikaaW.PrintLast Go.Proofs.YtdbjjaodkapikaaW.PrintMore Go.Proofs.Ytdbjjaodkapikaa.Evs
set_option linter.unusedVariables false
set_option linter.unusedSimpArgs false
def idxB (b : UInt8) : Int := Lib.indexByte [115, 116, 101] b
def varT (s : ByteArray) (b : UInt8) : Tm := ⟨5 + idxB b, s.extract 2 s.size, []⟩
def varV (s : ByteArray) : Tm × Bool :=
  if h : 2 ≤ s.size then if s[1]'(by omega) = 46 ∧ (0 : Int) ≤ idxB (s[0]'(by omega)) ∧ rightS (varT s (s[0]'(by omega))) = true then (varT s (s[0]'(by omega)), true) else (z42, false) else (z42, false)
set_option maxRecDepth 20000 in
theorem idx_le (b : UInt8) : idxB b ≤ 2 ∧ -1 ≤ idxB b := by
  exact byte_all (fun b => idxB b ≤ 2 ∧ -1 ≤ idxB b) (by decide) b
theorem take_one (s : ByteArray) (h : 2 ≤ s.size) : s.extract 0 1 = ⟨#[s[0]'(by omega)]⟩ := by
  apply ba_ext; rw [extract_list]
  have hl : 0 < s.data.toList.length := by rw [← size_len]; omega
  rw [List.drop_zero, Nat.sub_zero]
  match hh : s.data.toList, hl with
  | x :: r, _ =>
    have : s[0]'(by omega) = x := by
      have h1 : s.data.toList[0]'hl = s[0]'(by omega) := by simp; rfl
      rw [← h1]; simp [hh]
    simp [this]
theorem blk3 {W : World} {b : Nat} {x0 y0 z0 x y z : Value} {t : TypeId} (h : W.heap[b]? = some (.cells #[x0, y0, z0] t (0, 0))) : (((W.setCell ⟨b, 0, none⟩ x).setCell ⟨b, 1, none⟩ y).setCell ⟨b, 2, none⟩ z).heap[b]? = some (.cells #[x, y, z] t (0, 0)) := by
  have := blk_set (blk_set (blk_set h 0 x) 1 y) 2 z
  simpa using this
theorem below3 {w W : World} {x y z : Value} (h : Below w.heap.size w W) : Below w.heap.size w (((W.setCell ⟨w.heap.size, 0, none⟩ x).setCell ⟨w.heap.size, 1, none⟩ y).setCell ⟨w.heap.size, 2, none⟩ z) :=
  ((h.setCell (p := ⟨w.heap.size, 0, none⟩) (by simp) _).setCell (p := ⟨w.heap.size, 1, none⟩) (by simp) _).setCell (p := ⟨w.heap.size, 2, none⟩) (by simp) _
theorem var_results {tmps : Array Value} {W : World} {b : Nat} {k : Int} {t : ByteArray} {u : Value} {v : Bool} (h2 : tmps.getD 2 undef = .pointer (some ⟨b, 0, none⟩)) (h3 : tmps.getD 3 undef = .bool v) (x0 : W.cell? ⟨b, 0, none⟩ = some (.int .i64 k)) (x1 : W.cell? ⟨b, 1, none⟩ = some (.string t)) (x2 : W.cell? ⟨b, 2, none⟩ = some u) :
    (results Try.f44 tmps).run Try.prog W = .ok (.tuple #[.agg #[.int .i64 k, .string t, u], .bool v]) W := by
  have h2' : tmps[2]?.getD undef = .pointer (some ⟨b, 0, none⟩) := by simpa using h2
  have h3' : tmps[3]?.getD undef = .bool v := by simpa using h3
  have hu := Try.underlying42; simp [results, Try.results44, h2', h3', go_sem, x0, x1, x2]
set_option maxRecDepth 100000 in
set_option maxHeartbeats 4000000 in
theorem Variable.calls (s : ByteArray) (w : World) (hs : s.size ≤ 1048576) :
    Calls Try.prog 44 #[.string s] w fun e w' => e = .returned (.tuple #[.agg #[.int .i64 (varV s).1.f0, .string (varV s).1.f1, .slice none 0 0], .bool (varV s).2]) ∧ Below w.heap.size w w' := by
  have hsi : (0 : Int) ≤ (s.size : Int) := Int.natCast_nonneg _; have hb0 : Below w.heap.size w (w.alloc (.cells #[.int .i64 0, .string ⟨#[]⟩, .slice none 0 0] 42)) := (Below.refl _ _).alloc (Nat.le_refl _) _; have hn0 := World.alloc_heap_new w (.cells #[.int .i64 0, .string ⟨#[]⟩, .slice none 0 0] 42); obtain ⟨W0, hW0⟩ : ∃ W0, w.alloc (.cells #[.int .i64 0, .string ⟨#[]⟩, .slice none 0 0] 42) = W0 := ⟨_, rfl⟩; have HW0 := Aside0.mk hW0; rw [hW0] at hb0 hn0; have HB0 := Aside0.mk hb0; have HN0 := Aside0.mk hn0; have x0 : W0.cell? ⟨w.heap.size, 0, none⟩ = some (.int .i64 0) := (q9 hn0 0).trans rfl; have x1 : W0.cell? ⟨w.heap.size, 1, none⟩ = some (.string ⟨#[]⟩) := (q9 hn0 1).trans rfl; have x2 : W0.cell? ⟨w.heap.size, 2, none⟩ = some (.slice none 0 0) := (q9 hn0 2).trans rfl; have f0 : W0.frozen? ⟨w.heap.size, 0, none⟩ = false := q15 hn0 0; have f1 : W0.frozen? ⟨w.heap.size, 1, none⟩ = false := q15 hn0 1; have f2 : W0.frozen? ⟨w.heap.size, 2, none⟩ = false := q15 hn0 2; clear hW0 hb0 hn0
  by_cases h2 : 2 ≤ s.size
  · have e1 : decide ((s.size : Int) < 2) = false := decide_eq_false (by omega)
    have hs1 : (1 : Int) < (s.size : Int) := by omega
    have hs2 : (2 : Int) ≤ (s.size : Int) := by omega
    have hs3 : (1 : Int) ≤ (s.size : Int) := by omega
    obtain ⟨b0, hb0⟩ : ∃ b0, b0 = s[0]'(by omega) := ⟨_, rfl⟩; obtain ⟨b1, hb1⟩ : ∃ b1, b1 = s[1]'(by omega) := ⟨_, rfl⟩
    have hbt : ((s[1]'(by omega)).toNat : Int) = (b1.toNat : Int) := by rw [hb1]
    have hv : varV s = if b1 = 46 ∧ 0 ≤ idxB b0 ∧ rightS (varT s b0) = true then (varT s b0, true) else (z42, false) := by unfold varV; rw [dif_pos h2, hb0, hb1]
    have hcon : ∀ w, Calls Try.prog 77 #[.string ⟨#[115, 116, 101]⟩, .string (s.extract 0 1)] w fun e w' => e = .returned (.bool (decide (0 ≤ idxB b0))) ∧ w' = w := by
      intro w; rw [take_one s h2, ← hb0]; exact Try.strings_Contains_one ⟨#[115, 116, 101]⟩ b0 w
    have hix : ∀ w, Calls Try.prog 78 #[.string ⟨#[115, 116, 101]⟩, .string (s.extract 0 1)] w fun e w' => e = .returned (.int .i64 (idxB b0)) ∧ w' = w := by
      intro w; rw [take_one s h2, ← hb0]; exact Try.strings_Index_one ⟨#[115, 116, 101]⟩ b0 w
    obtain ⟨hi2, hi1⟩ := idx_le b0
    obtain ⟨k, hk⟩ := (right_ev (x := varT s b0) (by
      have h1 := size_len (s.extract 2 s.size); rw [extract_list, List.length_take, List.length_drop, ← size_len] at h1; show (s.extract 2 s.size).size ≤ _
      omega)).get
    have HV := Aside0.mk hv; have HCON := Aside0.mk hcon; have HIX := Aside0.mk hix; have HK : Aside0 (term_right.f k (5 + idxB b0) (s.extract 2 s.size) [] = some (rightS (varT s b0))) := ⟨hk⟩
    have hw : IntKind.i64.wrap (5 + idxB b0) = 5 + idxB b0 := by rw [i64_w]; rw [wrap64_id (by omega) (by omega)]
    have HI1 := Aside0.mk hi1; clear hb0 hb1 hv hcon hix hi2 hi1 hk
    by_cases h46 : b1 = 46
    · have e46 : ((b1.toNat : Int) != 46) = false := by rw [h46]; rfl
      rw [h46] at HV; have HV' := HV.out
      by_cases h0 : 0 ≤ idxB b0
      · obtain ⟨r, hr⟩ : ∃ r, r = rightS (varT s b0) := ⟨_, rfl⟩; have hd0 : decide (0 ≤ idxB b0) = true := decide_eq_true h0; have HKR : Aside0 (term_right.f k (5 + idxB b0) (s.extract 2 s.size) [] = some r) := ⟨by rw [hr]; exact HK.out⟩; have HVR : Aside0 (varV s = if r = true then (varT s b0, true) else (z42, false)) := ⟨by rw [HV', ← hr]; simp [h0]⟩; rw [hd0] at HCON; clear HV HV' HK hr h46 hd0
        go_enter Try.func44, Try.ntmps44
        go_wp2_with fail
        rw [HW0.out]
        go_wp2_with fail
        refine (HCON.out _).mono ?_; rintro e w1 ⟨rfl, rfl⟩
        go_wp2_with fail
        go_region_with (first | (go_at_call 78; refine (HIX.out _).mono ?_; rintro e w2 ⟨rfl, rfl⟩))
        all_goals
          have hn4 := World.alloc_heap_new w1 (.cells #[.int .i64 (5 + idxB b0), .string (s.extract 2 s.size), .slice none 0 0] 42); have hb4 : Below w1.heap.size w1 (w1.alloc (.cells #[.int .i64 (5 + idxB b0), .string (s.extract 2 s.size), .slice none 0 0] 42)).drew := q26 ((Below.refl _ _).alloc (Nat.le_refl _) _); obtain ⟨W4, hW4⟩ : ∃ W4, (w1.alloc (.cells #[.int .i64 (5 + idxB b0), .string (s.extract 2 s.size), .slice none 0 0] 42)).drew = W4 := ⟨_, rfl⟩
          have hn4' : W4.heap[w1.heap.size]? = some (.cells #[.int .i64 (5 + idxB b0), .string (s.extract 2 s.size), .slice none 0 0] 42 (0, 0)) := by rw [← hW4]; exact hn4
          rw [hW4] at hb4 ⊢; have HN4 := Aside0.mk hn4'; have y0 : W4.cell? ⟨w1.heap.size, 0, none⟩ = some (.int .i64 (5 + idxB b0)) := (q9 hn4' 0).trans rfl; have y1 : W4.cell? ⟨w1.heap.size, 1, none⟩ = some (.string (s.extract 2 s.size)) := (q9 hn4' 1).trans rfl; have y2 : W4.cell? ⟨w1.heap.size, 2, none⟩ = some (.slice none 0 0) := (q9 hn4' 2).trans rfl; have HZ4 := Aside0.mk ((hb4.block _ (Array.getElem?_eq_some_iff.1 HN0.out).1).trans HN0.out); have HB4 := Aside0.mk (q14 HB0.out hb4); clear hn4 hb4 hW4 hn4' x0 x1 x2 f0 f1 f2
          go_wp2_with fail
          refine (term_right.calls k (5 + idxB b0) (s.extract 2 s.size) none 0 [] r W4 (Kd.C_nil k42 W4) (Nat.le_refl _) HKR.out).mono ?_; rintro e w5 ⟨rfl, hb5⟩; have hn5 := (hb5.block _ (Array.getElem?_eq_some_iff.1 HN4.out).1).trans HN4.out; have hz5 := (hb5.block _ (Array.getElem?_eq_some_iff.1 HZ4.out).1).trans HZ4.out; have z0 : w5.cell? ⟨w1.heap.size, 0, none⟩ = some (.int .i64 (5 + idxB b0)) := (q9 hn5 0).trans rfl; have z1 : w5.cell? ⟨w1.heap.size, 1, none⟩ = some (.string (s.extract 2 s.size)) := (q9 hn5 1).trans rfl; have z2 : w5.cell? ⟨w1.heap.size, 2, none⟩ = some (.slice none 0 0) := (q9 hn5 2).trans rfl; have x0 : w5.cell? ⟨w.heap.size, 0, none⟩ = some (.int .i64 0) := (q9 hz5 0).trans rfl; have x1 : w5.cell? ⟨w.heap.size, 1, none⟩ = some (.string ⟨#[]⟩) := (q9 hz5 1).trans rfl; have x2 : w5.cell? ⟨w.heap.size, 2, none⟩ = some (.slice none 0 0) := (q9 hz5 2).trans rfl; have f0 : w5.frozen? ⟨w.heap.size, 0, none⟩ = false := q15 hz5 0; have f1 : w5.frozen? ⟨w.heap.size, 1, none⟩ = false := q15 hz5 1; have f2 : w5.frozen? ⟨w.heap.size, 2, none⟩ = false := q15 hz5 2; have HZ5 := Aside0.mk hz5; have HB5 := Aside0.mk (q14 HB4.out hb5); clear hn5 hz5 hb5 y0 y1 y2
          cases r with
          | false =>
            go_wp2_with fail
            (first
              | (refine bodyPost_ret (var_results (b := w.heap.size) rfl rfl x0 x1 x2) rfl ?_; exact ⟨by rw [HVR.out]; rfl, HB5.out⟩)
              | (refine bodyPost_ret (var_results (b := w.heap.size) rfl rfl ((q9 (blk3 HZ5.out) 0).trans rfl) ((q9 (blk3 HZ5.out) 1).trans rfl) ((q9 (blk3 HZ5.out) 2).trans rfl)) rfl ?_; exact ⟨by rw [HVR.out]; rfl, below3 HB5.out⟩))
          | true =>
            go_wp2_with fail
            refine bodyPost_ret (var_results (b := w.heap.size) rfl rfl ((q9 (blk3 HZ5.out) 0).trans rfl) ((q9 (blk3 HZ5.out) 1).trans rfl) ((q9 (blk3 HZ5.out) 2).trans rfl)) rfl ?_; exact ⟨by rw [HVR.out]; rfl, below3 HB5.out⟩
      · have hd0 : decide (0 ≤ idxB b0) = false := decide_eq_false h0; have HVR : Aside0 (varV s = (z42, false)) := ⟨by rw [HV', if_neg (fun h => h0 h.2.1)]⟩; rw [hd0] at HCON; clear HV HV' HK h46 hd0 h0
        go_enter Try.func44, Try.ntmps44
        go_wp2_with fail
        rw [HW0.out]
        go_wp2_with fail
        refine (HCON.out _).mono ?_; rintro e w1 ⟨rfl, rfl⟩
        go_wp2_with fail
        (first
          | (refine bodyPost_ret (var_results (b := w.heap.size) rfl rfl x0 x1 x2) rfl ?_; exact ⟨by rw [HVR.out]; rfl, HB0.out⟩)
          | (refine bodyPost_ret (var_results (b := w.heap.size) rfl rfl ((q9 (blk3 HN0.out) 0).trans rfl) ((q9 (blk3 HN0.out) 1).trans rfl) ((q9 (blk3 HN0.out) 2).trans rfl)) rfl ?_; exact ⟨by rw [HVR.out]; rfl, below3 HB0.out⟩))
    · have e46 : ((b1.toNat : Int) != 46) = true := by
        have : b1.toNat ≠ 46 := fun e => h46 (UInt8.toNat_inj.1 e)
        simp; omega
      have HVR : Aside0 (varV s = (z42, false)) := ⟨by rw [HV.out, if_neg (fun h => h46 h.1)]⟩; clear HV HK h46
      go_enter Try.func44, Try.ntmps44
      go_wp2_with fail
      rw [HW0.out]
      go_wp2_with fail
      refine bodyPost_ret (var_results (b := w.heap.size) rfl rfl x0 x1 x2) rfl ?_; exact ⟨by rw [HVR.out]; rfl, HB0.out⟩
  · have e1 : decide ((s.size : Int) < 2) = true := decide_eq_true (by omega)
    have hv : varV s = (z42, false) := by unfold varV; rw [dif_neg h2]
    have HV := Aside0.mk hv; clear hv h2
    go_enter Try.func44, Try.ntmps44
    go_wp2_with fail
    rw [HW0.out]
    go_wp2_with fail
    refine bodyPost_ret (var_results (b := w.heap.size) rfl rfl x0 x1 x2) rfl ?_; exact ⟨by rw [HV.out]; rfl, HB0.out⟩
end Go.Proofs.Ytdbjjaodkapikaa.TE
end
