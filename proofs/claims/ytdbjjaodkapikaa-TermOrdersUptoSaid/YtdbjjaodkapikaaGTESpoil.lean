/- spoil writes into a tree of its own alone. -/
import Derived.Test.YtdbjjaodkapikaaGTECopy
import Derived.Test.YtdbjjaodkapikaaGTEPa
namespace Go.Proofs.Ytdbjjaodkapikaa.TE
open Go.RowKit Go.Shelf Go.Proofs.YtdbjjaodkapikaaW.PrintWords Go.Proofs.YtdbjjaodkapikaaW.PrintLast Go.Proofs.YtdbjjaodkapikaaW.PrintMore Go.Proofs.Ytdbjjaodkapikaa.Evs
set_option linter.unusedVariables false
set_option linter.unusedSimpArgs false
structure Sp (wr : World) (n : Nat) (l : List Tm) (b q : Nat) (cs : Array Value) (f : Nat → Nat) : Prop where
  row : wr.heap[b]? = some (.cells cs 42 (0, 0))
  low : b < f 0
  mono : ∀ j, j < l.length → f j ≤ f (j + 1)
  todo : ∀ j x, q ≤ j → l[j]? = some x → ∃ u, cs[j * 3]? = some (.int .i64 x.f0) ∧ cs[j * 3 + 1]? = some (.string x.f1) ∧ cs[j * 3 + 2]? = some u ∧ OT wr n x.f2 u (f j) (f (j + 1))
theorem Sp.next {wr w2 : World} {n : Nat} {l : List Tm} {b q : Nat} {cs : Array Value} {f : Nat → Nat} {u v : Value} (h : Sp wr n l b q cs f) (hq : q < l.length) (hf : Fr wr w2 (fun i => f q ≤ i ∧ i < f (q + 1))) :
    Sp ((w2.setCell ⟨b, q * 3, none⟩ u).setCell ⟨b, q * 3 + 1, none⟩ v) n l b (q + 1) ((cs.setIfInBounds (q * 3) u).setIfInBounds (q * 3 + 1) v) f := by
  have hbl := blk_lt h.row; have hm := mono_le h.mono; have h0 := hm 0 q (Nat.zero_le _) (by omega); have hl := h.low; have hrow := (hf.block b hbl (by omega)).trans h.row
  have hfar : ∀ i, i ≠ b → ((w2.setCell ⟨b, q * 3, none⟩ u).setCell ⟨b, q * 3 + 1, none⟩ v).heap[i]? = w2.heap[i]? := fun i hi => (Below.heap_setCell _ ⟨b, q * 3 + 1, none⟩ v i hi).trans (Below.heap_setCell w2 ⟨b, q * 3, none⟩ u i hi)
  refine ⟨blk_set (blk_set hrow _ _) _ _, h.low, h.mono, fun j y hj hy => ?_⟩; obtain ⟨z, a1, a2, a3, a4⟩ := h.todo j y (by omega) hy; have hjl := idx_lt hy; have e1 := hm (q + 1) j (by omega) (by omega); have e0 := hm 0 j (Nat.zero_le _) (by omega); refine ⟨z, (set_other (by omega)).trans ((set_other (by omega)).trans a1), (set_other (by omega)).trans ((set_other (by omega)).trans a2), (set_other (by omega)).trans ((set_other (by omega)).trans a3), ?_⟩; refine OT.frame' n _ _ _ _ a4 (fun i g1 g2 o ho => ?_); exact (hfar i (by omega)).trans ((hf.block i (blk_lt ho) (by omega)).trans ho)
theorem fr_set2 {W w2 : World} {lo hi b i j : Nat} {u v : Value} (h : Fr W w2 (fun i => lo ≤ i ∧ i < hi)) (h1 : lo ≤ b) (h2 : b < hi) : Fr W ((w2.setCell ⟨b, i, none⟩ u).setCell ⟨b, j, none⟩ v) (fun i => lo ≤ i ∧ i < hi) :=
  (h.trans (Fr.of_grown (grown_set w2 b i u) (fun k e => by cases e; exact ⟨h1, h2⟩))).trans (Fr.of_grown (grown_set _ b j v) (fun k e => by cases e; exact ⟨h1, h2⟩))
set_option maxRecDepth 100000 in
set_option maxHeartbeats 4000000 in
theorem spoil.calls : ∀ (n : Nat) (l : List Tm) (v : Value) (lo hi : Nat) (W : World), OT W n l v lo hi → bk42s l ≤ 1048576 →
    Calls Try.prog 30 #[v] W fun e W' => e = .returned (.tuple #[]) ∧ Fr W W' (fun i => lo ≤ i ∧ i < hi) := by
  have h00 : ∀ (A : Option Addr) (c : Nat) (lo hi : Nat) (W : World), Calls Try.prog 30 #[.slice A 0 c] W fun e W' => e = .returned (.tuple #[]) ∧ Fr W W' (fun i => lo ≤ i ∧ i < hi) := by
    intro A c lo hi W; have HF := Aside0.mk (Fr.refl W (fun i => lo ≤ i ∧ i < hi))
    go_enter Try.func30, Try.ntmps30
    go_wp2_with fail
    go_loopw [5] (fun i wr => i = .int .i64 ((0 : Nat) : Int) ∧ Aside0 (Fr W wr (fun i => lo ≤ i ∧ i < hi))) (fun i wr => 0)
    case atStart => exact ⟨rfl, HF⟩
    case round =>
      obtain ⟨rfl, HBR⟩ := hrel
      go_wp2_with fail
      go_end0
      exact ⟨rfl, HBR.out⟩
  intro n
  induction n with
  | zero =>
    intro l v lo hi W h hbk; obtain ⟨rfl, A, c, rfl⟩ := h; exact h00 A c lo hi W
  | succ n ih =>
    intro l v lo hi W h hbk
    rcases h with ⟨rfl, A, c, rfl⟩ | ⟨b, c, cs, f, rfl, hc, hlo, hlow, hhi, hmono, hrow, hall⟩
    · exact h00 A c lo hi W
    · have hlen := bk_len' hbk; have hm := mono_le hmono; have hmm := hm 0 l.length (Nat.zero_le _) (Nat.le_refl _); have HM := Aside0.mk hm; have H0 : Aside0 (Sp W n l b 0 cs f) := ⟨⟨hrow, hlow, hmono, fun j x _ hj => hall j x hj⟩⟩; have HLO := Aside0.mk hlo; have HHI : Aside0 (b < hi ∧ f l.length ≤ hi ∧ b < f 0) := ⟨by omega, hhi, hlow⟩; have HBK := Aside0.mk hbk; have HLEN := Aside0.mk hlen; have IH := Aside0.mk ih; have HF := Aside0.mk (Fr.refl W (fun i => lo ≤ i ∧ i < hi)); clear h00 hc hlo hlow hhi hmono hrow hall hm hmm ih hbk hlen
      go_enter Try.func30, Try.ntmps30
      go_wp2_with fail
      go_loopw [5] (fun i wr => ∃ (q : Nat) (cs : Array Value), i = .int .i64 q ∧ q ≤ l.length ∧ Aside0 (Sp wr n l b q cs f) ∧ Aside0 (Fr W wr (fun i => lo ≤ i ∧ i < hi))) (fun i wr => l.length - (intOf i).toNat)
      case atStart => exact ⟨0, cs, rfl, Nat.zero_le _, H0, HF⟩
      case round =>
        obtain ⟨q, cs', rfl, hq, HSP, HFR⟩ := hrel; have hq0 : (0 : Int) ≤ (q : Int) := Int.natCast_nonneg _
        by_cases hlt : q < l.length
        · have e1 : decide ((q : Int) < (l.length : Int)) = true := decide_eq_true (by omega)
          have hqi : (q : Int) < (l.length : Int) := by omega
          obtain ⟨x, hx⟩ : ∃ x, l[q]? = some x := ⟨_, List.getElem?_eq_getElem hlt⟩; have hmem : x ∈ l := List.mem_of_getElem? hx; obtain ⟨u, t1, t2, t3, t4⟩ := HSP.out.todo q x (Nat.le_refl _) hx; obtain ⟨A2, c2, rfl⟩ := t4.form; have hkid := bk_kid hmem HBK.out; have hsz : x.f1.size ≤ 1048576 := hkid.2; have HKID := Aside0.mk hkid.1; have T1 := Aside0.mk t1; have T2 := Aside0.mk t2; have T4 := Aside0.mk t4; have x2 : wr.cell? ⟨b, q * 3 + 2, none⟩ = some (.slice A2 x.f2.length c2) := (q4 HSP.out.row _).trans t3
          have hw : IntKind.i64.wrap ((q : Int) + 1) = (q : Int) + 1 := by have := HLEN.out; rw [i64_w]; rw [wrap64_id (by omega) (by omega)]
          have HRG : Aside0 (f 0 ≤ f q ∧ f (q + 1) ≤ f l.length) := ⟨HM.out 0 q (Nat.zero_le _) (by omega), HM.out (q + 1) l.length (by omega) (Nat.le_refl _)⟩; clear hx hmem t1 t2 t3 t4 hkid
          go_wp2_with fail
          refine (IH.out x.f2 (.slice A2 x.f2.length c2) (f q) (f (q + 1)) wr T4.out HKID.out).mono ?_; rintro e w2 ⟨rfl, hf2⟩; have hrow2 : w2.heap[b]? = some (.cells cs' 42 (0, 0)) := (hf2.block b (blk_lt HSP.out.row) (by have := HRG.out; have := HHI.out; omega)).trans HSP.out.row; have y0 : w2.cell? ⟨b, q * 3, none⟩ = some (.int .i64 x.f0) := (q4 hrow2 _).trans T1.out; have y1 : w2.cell? ⟨b, q * 3 + 1, none⟩ = some (.string x.f1) := (q4 hrow2 _).trans T2.out; have yf0 : w2.frozen? ⟨b, q * 3, none⟩ = false := q9 hrow2 _; have yf1 : w2.frozen? ⟨b, q * 3 + 1, none⟩ = false := q9 hrow2 _
          have HSP2 := fun (u v : Value) => Aside0.mk (HSP.out.next (u := u) (v := v) hlt hf2)
          have HFR2 := fun (i j : Nat) (u v : Value) => Aside0.mk (fr_set2 (b := b) (i := i) (j := j) (u := u) (v := v) (HFR.out.trans (hf2.mono (fun i _ e => (by have := HRG.out; have := HHI.out; have := HLO.out; omega : lo ≤ i ∧ i < hi)))) HLO.out HHI.out.1)
          have HS2 := Aside0.mk HSP2; have HR2 := Aside0.mk HFR2; clear hf2 hrow2 x2 HSP2 HFR2
          go_wp2_with fail
          go_roundw
          case rel => exact ⟨q + 1, _, by go_num, by omega, HS2.out _ _, HR2.out _ _ _ _⟩
          case measure => simp [intOf]; omega
        · have e1 : decide ((q : Int) < (l.length : Int)) = false := decide_eq_false (by omega); have e1' : decide (q < l.length) = false := decide_eq_false hlt; clear hlt
          go_wp2_with fail
          go_end0
          exact ⟨rfl, HFR.out⟩
end Go.Proofs.Ytdbjjaodkapikaa.TE
