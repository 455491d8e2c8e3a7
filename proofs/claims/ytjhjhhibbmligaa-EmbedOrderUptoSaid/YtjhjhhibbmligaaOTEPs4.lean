/- The parser: call at a general state. -/
import Derived.Test.YtjhjhhibbmligaaOTEPs1
section
namespace Go.Proofs.Ytjhjhhibbmligaa.TE
open Go.RowKit Go.Shelf Go.Proofs.YtjhjhhibbmligaaW.PrintWords Go.Proofs.YtjhjhhibbmligaaW.PrintLast Go.Proofs.YtjhjhhibbmligaaW.PrintMore Go.Proofs.Ytjhjhhibbmligaa.Evs
set_option linter.unusedVariables false
set_option linter.unusedSimpArgs false
theorem PS.fail {w0 W : World} {g : Nat} {s : ByteArray} {a fault : Int} {l : List Tm} {st : List Op} (h : PS w0 W g s a fault l st) (x : Int) :
    Calls Try.prog 165 #[.pointer (some ⟨g, 0, none⟩), .int .i64 x] W fun e W' => e = .returned (.bool false) ∧ PS w0 W' g s a (failF fault x) l st ∧ W.grownBy W' (some g) := by
  obtain ⟨vl, vs, avs, h1, h2, h3, h4⟩ := h.mem; refine (fail.calls g s a fault x vl vs W h2).mono ?_; rintro e W' ⟨rfl, hp, hg⟩; refine ⟨rfl, h.field hg (fun vl' vs' h2' => ?_), hg⟩
  have he : vl' = vl ∧ vs' = vs := by
    unfold Pz at h2 h2'; rw [h2] at h2'
    injection h2' with e; injection e with e _ _
    simp at e; exact ⟨e.1.symm, e.2.symm⟩
  rw [he.1, he.2]; exact hp
theorem PS.uniq {W : World} {g : Nat} {s : ByteArray} {a fault : Int} {vl vs vl' vs' : Value} (h2 : Pz W g s a fault vl vs) (h2' : Pz W g s a fault vl' vs') : vl' = vl ∧ vs' = vs := by
  unfold Pz at h2 h2'; rw [h2] at h2'
  injection h2' with e; injection e with e _ _
  simp at e; exact ⟨e.1.symm, e.2.symm⟩
theorem PS.longest {w0 W : World} {g a : Nat} {s : ByteArray} {fault : Int} {l : List Tm} {st : List Op} (h : PS w0 W g s a fault l st) (m : Int) (hs : s.size ≤ 1099511627776) (ha : a ≤ s.size) :
    Calls Try.prog 119 #[.pointer (some ⟨g, 0, none⟩), .int .u8 m] W fun e W' => e = .returned (.string (s.extract a (endF m s a))) ∧ PS w0 W' g s (endF m s a) fault l st ∧ W.grownBy W' (some g) := by
  obtain ⟨vl, vs, avs, h1, h2, h3, h4⟩ := h.mem; refine (longest.calls g s a m fault vl vs W h2 hs ha).mono ?_; rintro e W' ⟨rfl, hp, hg⟩; refine ⟨rfl, h.field hg (fun vl' vs' h2' => ?_), hg⟩; rw [(PS.uniq h2 h2').1, (PS.uniq h2 h2').2]; exact hp
theorem PS.apart {w0 W : World} {g a : Nat} {s : ByteArray} {fault : Int} {l : List Tm} {st : List Op} (h : PS w0 W g s a fault l st) (hs : s.size ≤ 1099511627776) :
    Calls Try.prog 161 #[.pointer (some ⟨g, 0, none⟩)] W fun e W' => e = .returned (.bool (!(onB s a))) ∧ PS w0 W' g s a (if onB s a = true then failF fault a else fault) l st ∧ W.grownBy W' (some g) := by
  obtain ⟨vl, vs, avs, h1, h2, h3, h4⟩ := h.mem; refine (apart.calls g s a fault vl vs W h2 hs).mono ?_; rintro e W' ⟨rfl, hp, hg⟩; refine ⟨rfl, h.field hg (fun vl' vs' h2' => ?_), hg⟩; rw [(PS.uniq h2 h2').1, (PS.uniq h2 h2').2]; exact hp
theorem fr_below0 {w0 W W' : World} {S : Nat → Prop} (hb : Below w0.heap.size w0 W) (h : Fr W W' S) (hS : ∀ k, S k → w0.heap.size ≤ k) : Below w0.heap.size w0 W' :=
  ⟨h.os.trans hb.os, h.tape.trans hb.tape, h.output.trans hb.output, Nat.le_trans hb.size h.size, fun k hk => (h.block k (Nat.lt_of_lt_of_le hk hb.size) (fun e => by have := hS k e; omega)).trans (hb.block k hk)⟩
theorem PS.add {w0 W : World} {g : Nat} {s : ByteArray} {a fault : Int} {l : List Tm} {st : List Op} (h : PS w0 W g s a fault l st) (k : Int) (tx : ByteArray) (x : Int) (kk : Nat) (r : Bool) (hr : term_right.f kk k tx [] = some r) (hl : l.length ≤ 1099511627776) :
    Calls Try.prog 159 #[.pointer (some ⟨g, 0, none⟩), .agg #[.int .i64 k, .string tx, .slice none 0 0], .int .i64 x] W fun e W' => e = .returned (.bool r) ∧ PS w0 W' g s a (if r = true then fault else failF fault x) (if r = true then l ++ [⟨k, tx, []⟩] else l) st := by
  obtain ⟨vl, vs, avs, h1, h2, h3, h4⟩ := h.mem; obtain ⟨ok, o1, o2, o3⟩ := h4; obtain ⟨xs, ho, hrep⟩ := o2.own; have hne : some g ≠ vs.ownBlock := own_neG h3 (by decide) h2
  cases r with
  | false =>
    refine (add0.calls g w0.heap.size s a fault x vl vs l.length xs k tx none 0 [] kk W h2 ho h.geb hl ho.1 (Kd.C_nil _ _) (Nat.le_refl _) hr).mono ?_; rintro e W' ⟨rfl, hp, hf⟩; refine ⟨rfl, ?_⟩; rw [if_neg (by decide), if_neg (by decide)]; refine ⟨fr_below0 h.below hf (fun k e => by rw [e]; exact h.geb), h.geb, vl, vs, avs, h1, hp, own_same h3 (fun k e => hf.block k (own_ltA h3 k e).1 (fun e' => hne (by rw [← e', e]))), Rows.move ⟨ok, o1, o2, o3⟩ (fun k hk hl => hf.block k hl (fun e => hk.2.1 e)) (fun k hk => ⟨Nat.lt_of_lt_of_le hk.1 hf.size, hk.2⟩)⟩
  | true =>
    refine (add1.calls g w0.heap.size s a fault x vl vs l.length xs k tx none 0 [] kk W h2 ho h.geb hl ho.1 (Kd.C_nil _ _) (Nat.le_refl _) hr).mono ?_; rintro e W' ⟨rfl, vl', hp, ho', hat, hf⟩; refine ⟨rfl, ?_⟩; rw [if_pos rfl, if_pos rfl]
    have hvl : ∀ k, vl.ownBlock = some k → some k ≠ vs.ownBlock := fun k e => (o1 k (o2.1 k e)).2.2
    have hgv : some g ≠ vl.ownBlock := own_ne ho h2
    have hsame : ∀ k, k < W.heap.size → k ≠ g → some k ≠ vl.ownBlock → W'.heap[k]? = W.heap[k]? := fun k hl hk hv => hf.block k hl (fun e => e.elim hk hv)
    refine ⟨fr_below0 h.below hf (fun k e => e.elim (fun e => by rw [e]; exact h.geb) (fun e => (own_ltA ho k e.symm).2)), h.geb, vl', vs, avs, h1, hp,
      own_same h3 (fun k e => hsame k (own_ltA h3 k e).1 (fun e' => hne (by rw [← e', e])) (fun e' => hvl k e'.symm e.symm)), ?_⟩
    refine ⟨fun k => (ok k ∧ k < W.heap.size) ∨ W.heap.size ≤ k ∧ k < W'.heap.size, fun k hk => ?_, ?_, ?_⟩
    · rcases hk with hk | hk
      · exact ⟨Nat.lt_of_lt_of_le hk.2 hf.size, (o1 k hk.1).2⟩
      · exact ⟨hk.2, by have := h.lt; omega, fun e => by have := (own_ltA h3 k e.symm).1; omega⟩
    · exact o2.snoc hrep ho' hat hf (fun hk => (o1 g hk).2.1 rfl) (fun k hk hl => .inl ⟨hk, hl⟩) (fun k h1 h2 => .inr ⟨h1, h2⟩) (leaf_FK _ _ _ _) rfl
    · refine Rows.move o3 (fun k hk hl => hsame k hl hk.1.2.1 (fun e => hk.2 (o2.1 k e.symm))) (fun k hk => ⟨⟨Nat.lt_of_lt_of_le hk.1.1 hf.size, hk.1.2⟩, fun e => ?_⟩)
      rcases e with e | e
      · exact hk.2 e.1
      · have := hk.1.1; omega
theorem PS.begin {w0 W : World} {g : Nat} {s : ByteArray} {a fault : Int} {l : List Tm} {st : List Op} (h : PS w0 W g s a fault l st) (k : Int) (tx : ByteArray) (hl : st.length ≤ 1099511627776) :
    Calls Try.prog 162 #[.pointer (some ⟨g, 0, none⟩), .agg #[.int .i64 k, .string tx, .slice none 0 0]] W fun e W' => e = .returned (.bool true) ∧ PS w0 W' g s a fault [] (⟨l, k, tx⟩ :: st) := by
  obtain ⟨vl, vs, avs, h1, h2, h3, h4⟩ := h.mem; obtain ⟨ok, o1, o2, o3⟩ := h4; replace o2 : TR W w0.heap.size ok vl l := o2; obtain ⟨av, cv, hv, hcv⟩ := o2.slice; subst hv; have hne : some g ≠ vs.ownBlock := own_neG h3 (by decide) h2; refine (begin.calls g w0.heap.size s a fault av l.length cv vs st.length _ k tx none 0 0 W h2 h3 h.geb hl).mono ?_; rintro e W' ⟨rfl, vs', hp, ho', hat, hf⟩; refine ⟨rfl, ?_⟩
  have hsame : ∀ k, k < W.heap.size → k ≠ g → some k ≠ vs.ownBlock → W'.heap[k]? = W.heap[k]? := fun k hl hk hv => hf.block k hl (fun e => e.elim hk hv)
  refine ⟨fr_below0 h.below hf (fun k e => e.elim (fun e => by rw [e]; exact h.geb) (fun e => (own_ltA h3 k e.symm).2)), h.geb, .slice none 0 0, vs', .slice av l.length cv :: avs, by simp [h1], hp, ?_, ?_⟩
  · have : ((Value.slice av l.length cv :: avs).zip ((⟨l, k, tx⟩ : Op) :: st)).reverse.flatMap opCells = (avs.zip st).reverse.flatMap opCells ++ [.slice av l.length cv, .int .i64 k, .string tx, .slice none 0 0] := by
      simp [opCells]
    rw [this, List.length_cons]; exact ho'
  · refine ⟨fun _ => False, fun k hk => hk.elim, TR.nil _ _ _, ok, fun k hk => ?_, ?_, ?_⟩
    · have := o1 k hk; refine ⟨⟨Nat.lt_of_lt_of_le this.1 hf.size, this.2.1, fun e => ?_⟩, fun e => e⟩
      rcases hat k e.symm with e' | e'
      · exact this.2.2 e'.symm
      · have := this.1; omega
    · exact o2.step (fun k hk hl => hsame k hl (o1 k hk).2.1 (o1 k hk).2.2)
    · refine Rows.move o3 (fun k hk hl => hsame k hl hk.1.2.1 hk.1.2.2) (fun k hk => ⟨⟨⟨Nat.lt_of_lt_of_le hk.1.1 hf.size, hk.1.2.1, fun e => ?_⟩, fun e => e⟩, hk.2⟩)
      rcases hat k e.symm with e' | e'
      · exact hk.1.2.2 e'.symm
      · have := hk.1.1; omega
end Go.Proofs.Ytjhjhhibbmligaa.TE
end
section
namespace Go.Proofs.Ytjhjhhibbmligaa.TE
open Go.RowKit Go.Shelf Go.Proofs.YtjhjhhibbmligaaW.PrintWords Go.Proofs.YtjhjhhibbmligaaW.PrintLast Go.Proofs.YtjhjhhibbmligaaW.PrintMore Go.Proofs.Ytjhjhhibbmligaa.Evs
set_option linter.unusedVariables false
set_option linter.unusedSimpArgs false
theorem own_formP {w : World} {base n e z : Nat} {v : Value} {xs : List Value} (h : w.ownsRow base e z v n xs) (hn : 0 < n) : ∃ b c, v = .slice (some ⟨b, 0, none⟩) n c ∧ n ≤ c := by
  rcases h.2 with ⟨_, h0⟩ | ⟨b, cap, cur, hv, _, _, hc, _⟩
  · omega
  · exact ⟨b, cap, hv, hc⟩
theorem own_formN {w : World} {base n e z : Nat} {v : Value} {xs : List Value} (h : w.ownsRow base e z v n xs) : ∃ A c, v = .slice A n c := by
  rcases h.2 with ⟨hv, h0⟩ | ⟨b, cap, cur, hv, _⟩
  · exact ⟨none, 0, by rw [hv, h0]⟩
  · exact ⟨_, _, hv⟩
set_option maxRecDepth 100000 in
set_option maxHeartbeats 4000000 in
theorem end_none.calls (g : Nat) (s : ByteArray) (at_ fault : Int) (vl : Value) (A : Option Addr) (cs : Nat) (k : Int) (W : World) (h : Pz W g s at_ fault vl (.slice A 0 cs)) :
    Calls Try.prog 164 #[.pointer (some ⟨g, 0, none⟩), .int .i64 k] W fun e W' => e = .returned (.bool false) ∧ Pz W' g s at_ (failF fault at_) vl (.slice A 0 cs) ∧ W.grownBy W' (some g) := by
  obtain ⟨p0, p1, p2, p3, p4⟩ := h.cells; have hcall := fail.calls g s at_ fault at_ vl (.slice A 0 cs) W h; have HCALL := Aside0.mk hcall; clear h hcall
  go_enter Try.func164, Try.ntmps164
  go_wp2_with fail
  refine HCALL.out.mono ?_; rintro e W' ⟨rfl, hp, hg⟩; have HP := Aside0.mk hp; have HG := Aside0.mk hg; clear hp hg
  go_wp2_with fail
  go_ret; exact ⟨rfl, HP.out, HG.out⟩
set_option maxRecDepth 100000 in
set_option maxHeartbeats 4000000 in
theorem end_other.calls (g base : Nat) (s : ByteArray) (at_ fault : Int) (vl : Value) (bs cs n : Nat) (ys : List Value) (va : Value) (k k' : Int) (tx : ByteArray) (A : Option Addr) (m c : Nat) (W : World)
    (h : Pz W g s at_ fault vl (.slice (some ⟨bs, 0, none⟩) (n + 1) cs)) (ho : W.ownsRow base 203 4 (.slice (some ⟨bs, 0, none⟩) (n + 1) cs) (n + 1) (ys ++ [va, .int .i64 k', .string tx, .slice A m c])) (hys : ys.length = n * 4) (hn8 : n ≤ 1099511627776) (hk : k' ≠ k) :
    Calls Try.prog 164 #[.pointer (some ⟨g, 0, none⟩), .int .i64 k] W fun e W' => e = .returned (.bool false) ∧ Pz W' g s at_ (failF fault at_) vl (.slice (some ⟨bs, 0, none⟩) (n + 1) cs) ∧ W.grownBy W' (some g) := by
  obtain ⟨p0, p1, p2, p3, p4⟩ := h.cells; obtain ⟨t0, t1, t2, t3⟩ := top_facts ho hys; have hcall := fail.calls g s at_ fault at_ vl (.slice (some ⟨bs, 0, none⟩) (n + 1) cs) W h; have HCALL := Aside0.mk hcall
  have hw1 : IntKind.i64.wrap (((n + 1 : Nat) : Int) - 1) = (n : Int) := by rw [i64_w]; rw [wrap64_id (by omega) (by omega)]; omega
  have hw2 : IntKind.i64.wrap ((n : Int) + 1 - 1) = (n : Int) := by rw [i64_w]; rw [wrap64_id (by omega) (by omega)]; omega
  have hw3 : IntKind.i64.wrap (n : Int) = (n : Int) := by rw [i64_w]; rw [wrap64_id (by omega) (by omega)]
  have hnn : (n : Int) < (n : Int) + 1 := by omega
  have hnn0 : (0 : Int) ≤ (n : Int) := Int.natCast_nonneg _; have e0 : decide ((n : Int) < 0) = false := decide_eq_false (by omega)
  have e1 : ((k' : Int) != k) = true := by simpa using hk
  clear h hcall ho hn8 hys hk
  go_enter Try.func164, Try.ntmps164
  go_wp2_with fail
  refine HCALL.out.mono ?_; rintro e W' ⟨rfl, hp, hg⟩; have HP := Aside0.mk hp; have HG := Aside0.mk hg; clear hp hg
  go_wp2_with fail
  go_ret; exact ⟨rfl, HP.out, HG.out⟩
def endS (k : Int) (a fault : Int) (l : List Tm) : List Op → Bool × Int × Int × List Tm × List Op
  | [] => (false, a, failF fault a, l, [])
  | o :: r => if o.kind = k then (true, a + 1, fault, o.ahead ++ [⟨o.kind, o.text, l⟩], r) else (false, a, failF fault a, l, o :: r)
theorem PS.end_ {w0 W : World} {g : Nat} {s : ByteArray} {a fault : Int} {l : List Tm} {st : List Op} (h : PS w0 W g s a fault l st) (k : Int) (hst : st.length ≤ 1099511627776) (hal : ∀ o ∈ st, o.ahead.length ≤ 1099511627776) (hat : 0 ≤ a ∧ a ≤ 1099511627776) :
    Calls Try.prog 164 #[.pointer (some ⟨g, 0, none⟩), .int .i64 k] W fun e W' => e = .returned (.bool (endS k a fault l st).1) ∧ PS w0 W' g s (endS k a fault l st).2.1 (endS k a fault l st).2.2.1 (endS k a fault l st).2.2.2.1 (endS k a fault l st).2.2.2.2 := by
  obtain ⟨vl, vs, avs, h1, h2, h3, h4⟩ := h.mem
  cases st with
  | nil =>
    obtain ⟨A, cs, rfl⟩ := own_formN h3; refine (end_none.calls g s a fault vl A cs k W h2).mono ?_; rintro e W' ⟨rfl, hp, hg⟩; refine ⟨rfl, h.field hg (fun vl' vs' h2' => ?_)⟩; rw [(PS.uniq h2 h2').1, (PS.uniq h2 h2').2]; exact hp
  | cons o r =>
    cases avs with
    | nil => simp at h1
    | cons va avs =>
      have hcell : ((va :: avs).zip (o :: r)).reverse.flatMap opCells = (avs.zip r).reverse.flatMap opCells ++ [va, .int .i64 o.kind, .string o.text, .slice none 0 0] := by simp [opCells]
      rw [hcell] at h3
      have hlen : ((avs.zip r).reverse.flatMap opCells).length = r.length * 4 := by
        rw [opCells_len, List.length_reverse, List.length_zip]; simp at h1; rw [h1, Nat.min_self]
      obtain ⟨bs, cs, rfl, hcs⟩ := own_formP h3 (by simp); simp only [List.length_cons] at h3 h2 hst
      by_cases hk : o.kind = k
      · have he : endS k a fault l (o :: r) = (true, a + 1, fault, o.ahead ++ [⟨o.kind, o.text, l⟩], r) := by simp [endS, hk]
        rw [he]; obtain ⟨ok, o1, o2, ok2, p1, p2, p3⟩ := h4; replace o2 : TR W w0.heap.size ok vl l := o2; replace p2 : TR W w0.heap.size ok2 va o.ahead := p2; obtain ⟨av, cv, hv, hcv⟩ := o2.slice; subst hv; obtain ⟨xs, ho, hrep⟩ := p2.own; have hne : some g ≠ (Value.slice (some ⟨bs, 0, none⟩) (r.length + 1) cs).ownBlock := own_neG h3 (by decide) h2; have hcall := end1.calls g w0.heap.size s a fault av l.length cv bs cs r.length _ va o.ahead.length xs k o.text none 0 0 W h2 (by rw [← hk]; exact h3) hlen ho h.geb (by omega) (hal o (by simp)) hat; refine hcall.mono ?_; rintro e W' ⟨rfl, vl', hp, hsk, ho', hat', hf⟩; refine ⟨rfl, ?_⟩
        have hsame : ∀ j, j < W.heap.size → j ≠ g → some j ≠ va.ownBlock → W'.heap[j]? = W.heap[j]? := fun j hl hj hv => hf.block j hl (fun e => e.elim hj hv)
        have hob : (Value.slice (some ⟨bs, 0, none⟩) r.length cs).ownBlock = (Value.slice (some ⟨bs, 0, none⟩) (r.length + 1) cs).ownBlock := rfl; refine ⟨fr_below0 h.below hf (fun j e => e.elim (fun e => by rw [e]; exact h.geb) (fun e => (own_ltA ho j e.symm).2)), h.geb, vl', .slice (some ⟨bs, 0, none⟩) r.length cs, avs, by simpa using h1, hp, hsk, ?_⟩
        have hdis : ∀ j, ok j → some j ≠ va.ownBlock := fun j hj e => (p1 j (p2.1 j e.symm)).2 hj
        refine ⟨fun j => (ok j ∧ j < W.heap.size) ∨ (ok2 j ∧ j < W.heap.size) ∨ W.heap.size ≤ j ∧ j < W'.heap.size, fun j hj => ?_, ?_, ?_⟩
        · rw [hob]
          rcases hj with hj | hj | hj
          · exact ⟨Nat.lt_of_lt_of_le hj.2 hf.size, (o1 j hj.1).2⟩
          · exact ⟨Nat.lt_of_lt_of_le hj.2 hf.size, (p1 j hj.1).1.2⟩
          · exact ⟨hj.2, by have := h.lt; omega, fun e => by have := (own_ltA h3 j e.symm).1; omega⟩
        · rw [hk]; refine p2.snoc hrep ho' hat' hf (fun hj => (p1 g hj).1.2.1 rfl) (fun j hj hl => .inr (.inl ⟨hj, hl⟩)) (fun j g1 g2 => .inr (.inr ⟨g1, g2⟩)) ?_ rfl; obtain ⟨_, hlc, hF⟩ := o2.foot; refine k42_mkF W' _ (⟨k, o.text, l⟩ : Tm) hlc (Kd.F_mono (Kd.F_step (Kd.F_bound hF) (fun j hj hl => hsame j hl (fun e => (o1 j hj.1).2.1 e) (hdis j hj.1))) (fun j hj => ⟨.inl hj, fun e => ?_⟩))
          rcases hat' j e.symm with e' | e'
          · exact hdis j hj.1 e'.symm
          · have := hj.2; omega
        · rw [hob]; refine Rows.move p3 (fun j hj hl => hsame j hl hj.1.1.2.1 (fun e => hj.2 (p2.1 j e.symm))) (fun j hj => ⟨⟨Nat.lt_of_lt_of_le hj.1.1.1 hf.size, hj.1.1.2⟩, fun e => ?_⟩)
          rcases e with e | e | e
          · exact hj.1.2 e.1
          · exact hj.2 e.1
          · have := hj.1.1.1; omega
      · have he : endS k a fault l (o :: r) = (false, a, failF fault a, l, o :: r) := by simp [endS, hk]
        rw [he]; refine (end_other.calls g w0.heap.size s a fault vl bs cs r.length _ va k o.kind o.text none 0 0 W h2 h3 hlen (by omega) hk).mono ?_; rintro e W' ⟨rfl, hp, hg⟩; refine ⟨rfl, h.field hg (fun vl' vs' h2' => ?_)⟩; rw [(PS.uniq h2 h2').1, (PS.uniq h2 h2').2]; exact hp
end Go.Proofs.Ytjhjhhibbmligaa.TE
end
section
namespace Go.Proofs.Ytjhjhhibbmligaa.TE
open Go.RowKit Go.Shelf Go.Proofs.YtjhjhhibbmligaaW.PrintWords Go.Proofs.YtjhjhhibbmligaaW.PrintLast Go.Proofs.YtjhjhhibbmligaaW.PrintMore Go.Proofs.Ytjhjhhibbmligaa.Evs
set_option linter.unusedVariables false
set_option linter.unusedSimpArgs false
theorem PS.newer {w0 W W' : World} {g : Nat} {s : ByteArray} {a fault : Int} {l : List Tm} {st : List Op} (h : PS w0 W g s a fault l st) (hb : Below W.heap.size W W') : PS w0 W' g s a fault l st := by
  have hg : W.grownBy W' (some g) := ⟨hb.os, hb.tape, hb.output, hb.size, fun k hk _ => hb.block k hk⟩; exact h.field hg (fun _ _ hp => Pz.newer hp hb)
theorem PS.setAt {w0 W : World} {g : Nat} {s : ByteArray} {a fault : Int} {l : List Tm} {st : List Op} (h : PS w0 W g s a fault l st) (x : Int) : PS w0 (W.setCell ⟨g, 1, none⟩ (.int .i64 x)) g s x fault l st :=
  h.field (grown_set W g 1 _) (fun _ _ hp => hp.setAt x)
theorem PS.cells {w0 W : World} {g : Nat} {s : ByteArray} {a fault : Int} {l : List Tm} {st : List Op} (h : PS w0 W g s a fault l st) : W.cell? ⟨g, 0, none⟩ = some (.string s) ∧ W.cell? ⟨g, 1, none⟩ = some (.int .i64 a) ∧ W.cell? ⟨g, 2, none⟩ = some (.int .i64 fault) ∧ W.frozen? ⟨g, 1, none⟩ = false := by
  obtain ⟨vl, vs, avs, h1, h2, h3, h4⟩ := h.mem; exact ⟨h2.cells.1, h2.cells.2.1, h2.cells.2.2.1, h2.fz 1⟩
def clsAt (m : Int) (s : ByteArray) (a : Nat) : Bool := if h : a < s.size then clsB m (s[a]'h) else false
def callS (s : ByteArray) (a : Nat) (fault : Int) (l : List Tm) (st : List Op) : Bool × Nat × Int × List Tm × List Op :=
  if clsAt 1 s (endF 8 s (a + 1)) = true then
    (if rightS (⟨8, s.extract (endF 8 s (a + 1)) (endF 4 s (endF 8 s (a + 1))), []⟩ : Tm) = true then
      (if onB s (endF 4 s (endF 8 s (a + 1))) = true then (false, endF 4 s (endF 8 s (a + 1)), failF fault (endF 4 s (endF 8 s (a + 1))), l, st)
       else (true, endF 4 s (endF 8 s (a + 1)), fault, [], ⟨l, 8, s.extract (endF 8 s (a + 1)) (endF 4 s (endF 8 s (a + 1)))⟩ :: st))
     else (false, endF 4 s (endF 8 s (a + 1)), failF fault (endF 8 s (a + 1)), l, st))
  else (false, endF 8 s (a + 1), failF fault (endF 8 s (a + 1)), l, st)
set_option maxRecDepth 100000 in
set_option maxHeartbeats 4000000 in
theorem PS.call {w0 W : World} {g a : Nat} {s : ByteArray} {fault : Int} {l : List Tm} {st : List Op} (h : PS w0 W g s a fault l st) (hs : s.size ≤ 1048576) (ha : a < s.size) (hst : st.length ≤ 1099511627776) :
    Calls Try.prog 163 #[.pointer (some ⟨g, 0, none⟩)] W fun e W' => e = .returned (.bool (callS s a fault l st).1) ∧ PS w0 W' g s (callS s a fault l st).2.1 (callS s a fault l st).2.2.1 (callS s a fault l st).2.2.2.1 (callS s a fault l st).2.2.2.2 := by
  have hs' : s.size ≤ 1099511627776 := by omega
  obtain ⟨q0, q1, q2, q3⟩ := h.cells
  have hp1 : PS w0 (W.setCell ⟨g, 1, none⟩ (.int .i64 ((a : Int) + 1))) g s ((a + 1 : Nat) : Int) fault l st := by have := h.setAt ((a : Int) + 1); simpa using this
  obtain ⟨W1, hW1⟩ : ∃ W1, W.setCell ⟨g, 1, none⟩ (.int .i64 ((a : Int) + 1)) = W1 := ⟨_, rfl⟩; rw [hW1] at hp1; have HW1 := Aside0.mk hW1
  have hw4 : IntKind.i64.wrap ((a : Int) + 1) = (a : Int) + 1 := by rw [i64_w]; rw [wrap64_id (by omega) (by omega)]
  obtain ⟨a1, h1⟩ : ∃ a1, a1 = endF 8 s (a + 1) := ⟨_, rfl⟩; obtain ⟨a2, h2⟩ : ∃ a2, a2 = endF 4 s a1 := ⟨_, rfl⟩
  have hle1 : a1 ≤ s.size := by rw [h1]; exact endF_le 8 s (a + 1) (by omega)
  obtain ⟨tx, htx⟩ : ∃ tx, tx = s.extract a1 a2 := ⟨_, rfl⟩; obtain ⟨cl, hcl⟩ : ∃ cl, cl = clsAt 1 s a1 := ⟨_, rfl⟩; obtain ⟨ri, hri⟩ : ∃ ri, ri = rightS (⟨8, tx, []⟩ : Tm) := ⟨_, rfl⟩; obtain ⟨on, hon⟩ : ∃ on, on = onB s a2 := ⟨_, rfl⟩
  have hdef : callS s a fault l st = if cl = true then (if ri = true then (if on = true then (false, a2, failF fault a2, l, st) else (true, a2, fault, [], ⟨l, 8, tx⟩ :: st)) else (false, a2, failF fault a1, l, st)) else (false, a1, failF fault a1, l, st) := by
    unfold callS; rw [← h1, ← h2, ← htx, ← hcl, ← hri, ← hon]
  have htl : tx.size ≤ 1099511627776 := by
    have h := size_len (s.extract a1 a2); rw [extract_list, List.length_take, List.length_drop, ← size_len] at h; rw [htx]; omega
  obtain ⟨kk, hkk⟩ := (right_ev (x := (⟨8, tx, []⟩ : Tm)) htl).get; rw [← hri] at hkk; have HDEF := Aside0.mk hdef; have HP1 := Aside0.mk hp1; have HS := Aside0.mk hs'; have HA := Aside0.mk ha; have HST := Aside0.mk hst; have H1 := Aside0.mk h1; have H2 := Aside0.mk h2; have HTX := Aside0.mk htx; have HR := Aside0.mk hkk; have HON := Aside0.mk hon; have HLE := Aside0.mk hle1; have hgl := h.lt; clear h hs hs' ha hst hp1 hW1 h1 h2 htx htl hkk hri hdef hgl q0 q2
  go_enter Try.func163, Try.ntmps163
  go_wp2_with fail
  rw [HW1.out]; clear q1 q3 hw4; refine (HP1.out.longest 8 HS.out HA.out).mono ?_; rintro e w1 ⟨rfl, hp, hg⟩; rw [← H1.out] at hp; obtain ⟨p0, p1, _, _⟩ := hp.cells; have HP2 := Aside0.mk hp; clear hp hg; have ha0 : (0 : Int) ≤ (a1 : Int) := Int.natCast_nonneg _
  by_cases hl : a1 < s.size
  · have ha1 : (a1 : Int) < (s.size : Int) := by omega
    have hne : ((a1 : Int) == (s.size : Int)) = false := by simp; omega
    obtain ⟨b, hb1⟩ : ∃ b, b = s[a1]'hl := ⟨_, rfl⟩
    have hbt : ((s[a1]'hl).toNat : Int) = (b.toNat : Int) := by rw [hb1]
    have hcall := fun w => is_calls b 1 w
    rw [show clsB 1 b = cl by rw [hcl, clsAt, dif_pos hl, hb1]] at hcall; have HCALL := Aside0.mk hcall; clear hcall hcl
    cases cl with
    | false =>
      have HD : Aside0 (callS s a fault l st = (false, a1, failF fault a1, l, st)) := ⟨by rw [HDEF.out]; simp⟩
      go_wp2_with fail
      go_quiet (first | (go_at_call 156; exact Calls.quiet_of (HCALL.out _)))
      clear p0 p1
      go_wp2_with fail
      refine (HP2.out.drewN.fail (a1 : Int)).mono ?_; rintro e w2 ⟨rfl, hp, hg⟩; have HP3 := Aside0.mk hp; clear hp hg
      go_wp2_with fail
      go_ret; rw [HD.out]; exact ⟨rfl, HP3.out⟩
    | true =>
      go_wp2_with fail
      go_quiet (first | (go_at_call 156; exact Calls.quiet_of (HCALL.out _)))
      clear p0 p1
      go_wp2_with fail
      refine (HP2.out.drewN.longest 4 HS.out HLE.out).mono ?_; rintro e w2 ⟨rfl, hp, hg⟩; rw [← H2.out, ← HTX.out]; rw [← H2.out] at hp; have HP3 := Aside0.mk hp; clear hp hg
      go_wp2_with fail
      have hn3 := World.alloc_heap_new w2 (.cells #[.int .i64 8, .string tx, .slice none 0 0] 42); have hb3 : Below w2.heap.size w2 (w2.alloc (.cells #[.int .i64 8, .string tx, .slice none 0 0] 42)) := (Below.refl _ _).alloc (Nat.le_refl _) _; obtain ⟨W3, hW3⟩ : ∃ W3, w2.alloc (.cells #[.int .i64 8, .string tx, .slice none 0 0] 42) = W3 := ⟨_, rfl⟩; rw [hW3] at hn3 hb3 ⊢; clear hW3; refine (term_right.calls kk 8 tx none 0 [] ri W3 (Kd.C_nil k42 W3) (Nat.le_refl _) HR.out).mono ?_; rintro e w3 ⟨rfl, hb4⟩; have hx3 := (hb4.block _ (Array.getElem?_eq_some_iff.1 hn3).1).trans hn3; have x0 : w3.cell? ⟨w2.heap.size, 0, none⟩ = some (.int .i64 8) := (q4 hx3 0).trans rfl; have x1 : w3.cell? ⟨w2.heap.size, 1, none⟩ = some (.string tx) := (q4 hx3 1).trans rfl; have x2 : w3.cell? ⟨w2.heap.size, 2, none⟩ = some (.slice none 0 0) := (q4 hx3 2).trans rfl; have HP4 := Aside0.mk ((HP3.out.newer hb3).newer hb4); have HX3 := Aside0.mk hx3; clear hn3 hb3 hb4 hx3
      cases ri with
      | false =>
        have HD : Aside0 (callS s a fault l st = (false, a2, failF fault a1, l, st)) := ⟨by rw [HDEF.out]; simp⟩
        go_wp2_with fail
        refine (HP4.out.fail (a1 : Int)).mono ?_; rintro e w4 ⟨rfl, hp, hg⟩; have HP5 := Aside0.mk hp; clear hp hg
        go_wp2_with fail
        go_ret; rw [HD.out]; exact ⟨rfl, HP5.out⟩
      | true =>
        go_wp2_with fail
        clear x0 x1 x2; have hap := HP4.out.apart HS.out; rw [← HON.out] at hap; refine hap.mono ?_; clear hap; rintro e w4 ⟨rfl, hp, hg⟩
        have hx4 := grown_blk hg HX3.out (fun e => by
          have h1 := HP3.out.lt
          omega)
        have x0 : w4.cell? ⟨w2.heap.size, 0, none⟩ = some (.int .i64 8) := (q4 hx4 0).trans rfl; have x1 : w4.cell? ⟨w2.heap.size, 1, none⟩ = some (.string tx) := (q4 hx4 1).trans rfl; have x2 : w4.cell? ⟨w2.heap.size, 2, none⟩ = some (.slice none 0 0) := (q4 hx4 2).trans rfl
        cases on with
        | true =>
          have HD : Aside0 (callS s a fault l st = (false, a2, failF fault a2, l, st)) := ⟨by rw [HDEF.out]; simp⟩; have HP5 : Aside0 (PS w0 w4 g s a2 (failF fault a2) l st) := ⟨by simpa using hp⟩; clear hp hg hx4
          go_wp2_with fail
          go_ret; rw [HD.out]; exact ⟨rfl, HP5.out⟩
        | false =>
          have HD : Aside0 (callS s a fault l st = (true, a2, fault, [], ⟨l, 8, tx⟩ :: st)) := ⟨by rw [HDEF.out]; simp⟩; have HP5 : Aside0 (PS w0 w4 g s a2 fault l st) := ⟨by simpa using hp⟩; clear hp hg hx4
          go_wp2_with fail
          refine (HP5.out.begin 8 tx HST.out).mono ?_; rintro e w5 ⟨rfl, hp⟩; have HP6 := Aside0.mk hp; clear hp
          go_wp2_with fail
          go_ret; rw [HD.out]; exact ⟨rfl, HP6.out⟩
  · have hle := HLE.out
    have hae : a1 = s.size := by omega
    have hne : ((a1 : Int) == (s.size : Int)) = true := by simp; omega
    have HD : Aside0 (callS s a fault l st = (false, a1, failF fault a1, l, st)) := ⟨by rw [HDEF.out, hcl, clsAt, dif_neg hl, if_neg (by decide)]⟩; clear hcl hle hae
    go_wp2_with fail
    go_quiet (fail)
    clear p0 p1
    go_wp2_with fail
    refine (HP2.out.drewN.fail (a1 : Int)).mono ?_; rintro e w2 ⟨rfl, hp, hg⟩; have HP3 := Aside0.mk hp; clear hp hg
    go_wp2_with fail
    go_ret; rw [HD.out]; exact ⟨rfl, HP3.out⟩
end Go.Proofs.Ytjhjhhibbmligaa.TE
end
