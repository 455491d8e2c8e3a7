/- The parser: end, where it closes a bracket. -/
import Derived.Test.YtdbjjaodkapikaaLTEBa
import Derived.Test.YtdbjjaodkapikaaLTEPlain
import Derived.BigQuiet
import Derived.Deep.RegionHeld3
import Derived.OwnWalk
import Derived.Deep.RegionWith
import Derived.Deep.RegionLaw
import Derived.ArgAppend
import Derived.Laws.OwnMore
section
namespace Go.Proofs.Ytdbjjaodkapikaa.TE
open Go.RowKit Go.Shelf Go.Proofs.YtdbjjaodkapikaaW.PrintWords Go.Proofs.YtdbjjaodkapikaaW.PrintLast Go.Proofs.YtdbjjaodkapikaaW.PrintMore Go.Proofs.Ytdbjjaodkapikaa.Evs
set_option linter.unusedVariables false
set_option linter.unusedSimpArgs false
def Pz (W : World) (g : Nat) (s : ByteArray) (at_ fault : Int) (vl vs : Value) : Prop := W.heap[g]? = some (.cells #[.string s, .int .i64 at_, .int .i64 fault, vl, vs] 72 (0, 0))
theorem Pz.cells {W : World} {g : Nat} {s : ByteArray} {at_ fault : Int} {vl vs : Value} (h : Pz W g s at_ fault vl vs) : W.cell? ⟨g, 0, none⟩ = some (.string s) ∧ W.cell? ⟨g, 1, none⟩ = some (.int .i64 at_) ∧ W.cell? ⟨g, 2, none⟩ = some (.int .i64 fault) ∧ W.cell? ⟨g, 3, none⟩ = some vl ∧ W.cell? ⟨g, 4, none⟩ = some vs :=
  ⟨(q5 h 0).trans rfl, (q5 h 1).trans rfl, (q5 h 2).trans rfl, (q5 h 3).trans rfl, (q5 h 4).trans rfl⟩
theorem Pz.fz {W : World} {g : Nat} {s : ByteArray} {at_ fault : Int} {vl vs : Value} (h : Pz W g s at_ fault vl vs) (i : Nat) : W.frozen? ⟨g, i, none⟩ = false := q13 h i
theorem Pz.setAt {W : World} {g : Nat} {s : ByteArray} {at_ fault : Int} {vl vs : Value} (h : Pz W g s at_ fault vl vs) (x : Int) : Pz (W.setCell ⟨g, 1, none⟩ (.int .i64 x)) g s x fault vl vs := by
  have := blk_set h 1 (.int .i64 x); simpa [Pz] using this
theorem Pz.setFault {W : World} {g : Nat} {s : ByteArray} {at_ fault : Int} {vl vs : Value} (h : Pz W g s at_ fault vl vs) (x : Int) : Pz (W.setCell ⟨g, 2, none⟩ (.int .i64 x)) g s at_ x vl vs := by
  have := blk_set h 2 (.int .i64 x); simpa [Pz] using this
theorem Pz.setList {W : World} {g : Nat} {s : ByteArray} {at_ fault : Int} {vl vs : Value} (h : Pz W g s at_ fault vl vs) (x : Value) : Pz (W.setCell ⟨g, 3, none⟩ x) g s at_ fault x vs := by
  have := blk_set h 3 x; simpa [Pz] using this
theorem Pz.setStack {W : World} {g : Nat} {s : ByteArray} {at_ fault : Int} {vl vs : Value} (h : Pz W g s at_ fault vl vs) (x : Value) : Pz (W.setCell ⟨g, 4, none⟩ x) g s at_ fault vl x := by
  have := blk_set h 4 x; simpa [Pz] using this
theorem Pz.grown {W W' : World} {g : Nat} {s : ByteArray} {at_ fault : Int} {vl vs : Value} {row : Option Nat} (h : Pz W g s at_ fault vl vs) (hg : W.grownBy W' row) (hne : some g ≠ row) : Pz W' g s at_ fault vl vs := (hg.block g (Array.getElem?_eq_some_iff.1 h).1 hne).trans h
theorem Pz.drewN {W : World} {g n : Nat} {s : ByteArray} {at_ fault : Int} {vl vs : Value} (h : Pz W g s at_ fault vl vs) : Pz (W.drewN n) g s at_ fault vl vs := h
theorem grown_drewN {W W' : World} {row : Option Nat} {n : Nat} (h : W.grownBy W' row) : W.grownBy (W'.drewN n) row := ⟨h.os, h.tape, h.output, h.size, h.block⟩
def failF (fault at_ : Int) : Int := if fault < 0 then at_ else fault
set_option maxRecDepth 100000 in
set_option maxHeartbeats 4000000 in
theorem fail.calls (g : Nat) (s : ByteArray) (at_ fault x : Int) (vl vs : Value) (W : World) (h : Pz W g s at_ fault vl vs) :
    Calls Try.prog 96 #[.pointer (some ⟨g, 0, none⟩), .int .i64 x] W fun e W' => e = .returned (.bool false) ∧ Pz W' g s at_ (failF fault x) vl vs ∧ W.grownBy W' (some g) := by
  obtain ⟨c0, c1, c2, c3, c4⟩ := h.cells; have f2 := h.fz 2; have H := Aside0.mk h; clear h
  by_cases hf : fault < 0
  · have e1 : decide (fault < 0) = true := decide_eq_true hf; have hr : failF fault x = x := if_pos hf; have HR := Aside0.mk hr; clear hf hr
    go_enter Try.func96, Try.ntmps96
    go_wp2_with fail
    go_ret; exact ⟨rfl, by rw [HR.out]; exact H.out.setFault x, grown_set _ _ _ _⟩
  · have e1 : decide (fault < 0) = false := decide_eq_false hf; have hr : failF fault x = fault := if_neg hf; have HR := Aside0.mk hr; clear hf hr
    go_enter Try.func96, Try.ntmps96
    go_wp2_with fail
    go_ret; exact ⟨rfl, by rw [HR.out]; exact H.out, World.grownBy.refl _ _⟩
def clsOf (b : UInt8) : Int := if isLet b then 5 else if isDig b then 6 else if isInn b then 4 else if b = 32 ∨ b = 9 ∨ b = 10 ∨ b = 13 then 8 else 0
def clsB (m : Int) (b : UInt8) : Bool := (Go.bits .and .u8 (clsOf b) m) != 0
theorem is_any (b : UInt8) (m : Int) : Evt (fun k => term_is.f k (b.toNat : Int) m) (clsB m b) := by
  have h := class_ev b; unfold term_is.f; exact h.bind (Evt.const _)
theorem is_calls (b : UInt8) (m : Int) (w : World) : Calls Try.prog 87 #[.int .u8 (b.toNat : Int), .int .u8 m] w fun e w' => e = .returned (.bool (clsB m b)) ∧ ∃ n, w' = w.drewN n := by
  obtain ⟨k, hk⟩ := (is_any b m).get; refine (term_is.calls k _ m _ w hk).mono ?_; rintro e w' ⟨rfl, hd⟩; exact ⟨rfl, hd.out⟩
end Go.Proofs.Ytdbjjaodkapikaa.TE
namespace Go.Proofs.Ytdbjjaodkapikaa.TE
open Go.RowKit Go.Shelf Go.Proofs.YtdbjjaodkapikaaW.PrintWords Go.Proofs.YtdbjjaodkapikaaW.PrintLast Go.Proofs.YtdbjjaodkapikaaW.PrintMore Go.Proofs.Ytdbjjaodkapikaa.Evs
set_option linter.unusedVariables false
set_option linter.unusedSimpArgs false
def onB (s : ByteArray) (a : Nat) : Bool := if h : a < s.size then clsB 4 (s[a]'h) || decide ((s[a]'h) = 46) else false
set_option maxRecDepth 100000 in
set_option maxHeartbeats 4000000 in
theorem apart.calls (g : Nat) (s : ByteArray) (a : Nat) (fault : Int) (vl vs : Value) (W : World) (h : Pz W g s a fault vl vs) (hs : s.size ≤ 1099511627776) :
    Calls Try.prog 92 #[.pointer (some ⟨g, 0, none⟩)] W fun e W' => e = .returned (.bool (!(onB s a))) ∧ Pz W' g s a (if onB s a = true then failF fault a else fault) vl vs ∧ W.grownBy W' (some g) := by
  obtain ⟨c0, c1, c2, c3, c4⟩ := h.cells; have H := Aside0.mk h; have ha0 : (0 : Int) ≤ (a : Int) := Int.natCast_nonneg _; clear h
  by_cases hlt : a < s.size
  · have e1 : decide ((a : Int) < (s.size : Int)) = true := decide_eq_true (by omega)
    have ha1 : (a : Int) < (s.size : Int) := by omega
    obtain ⟨b, hb⟩ : ∃ b, b = s[a]'hlt := ⟨_, rfl⟩
    have hon : onB s a = (clsB 4 b || decide (b = 46)) := by unfold onB; rw [dif_pos hlt, hb]
    have hbt : ((s[a]'hlt).toNat : Int) = (b.toNat : Int) := by rw [hb]
    obtain ⟨q, hq⟩ : ∃ q, q = clsB 4 b := ⟨_, rfl⟩
    have hcall := fun w => is_calls b 4 w
    rw [← hq] at hcall hon; have HON := Aside0.mk hon; have HCALL := Aside0.mk hcall
    have h46 : ((b.toNat : Int) == 46) = decide (b = 46) := by
      rcases Decidable.em (b = 46) with h | h
      · rw [h]; rfl
      · have : b.toNat ≠ 46 := fun e => h (UInt8.toNat_inj.1 e)
        rw [decide_eq_false h]; simp; omega
    obtain ⟨d, hd⟩ : ∃ d, d = decide (b = 46) := ⟨_, rfl⟩; rw [← hd] at h46; have HD := Aside0.mk hd; clear hon hcall hq hb hd
    cases q with
    | true =>
      have hr : onB s a = true := by rw [HON.out]; simp
      rw [hr]; have HR := Aside0.mk hr; clear hr
      go_enter Try.func92, Try.ntmps92
      go_wp2_with fail
      go_quiet (first | (go_at_call 87; exact Calls.quiet_of (HCALL.out _)))
      go_wp2_with (first | (go_at_call 96; refine (fail.calls g s a fault a vl vs _ H.out.drewN).mono ?_; rintro e w' ⟨rfl, hp, hg⟩; have HP := Aside0.mk hp; have HG := Aside0.mk ((grown_drewN (n := nq) (World.grownBy.refl W (some g))).trans hg); clear hp hg) | fail)
      go_ret; exact ⟨rfl, HP.out, HG.out⟩
    | false =>
      cases d with
      | true =>
        have hr : onB s a = true := by rw [HON.out, ← HD.out]; rfl
        rw [hr]; clear hr
        go_enter Try.func92, Try.ntmps92
        go_wp2_with fail
        go_quiet (first | (go_at_call 87; exact Calls.quiet_of (HCALL.out _)))
        go_wp2_with (first | (go_at_call 96; refine (fail.calls g s a fault a vl vs _ H.out.drewN).mono ?_; rintro e w' ⟨rfl, hp, hg⟩; have HP := Aside0.mk hp; have HG := Aside0.mk ((grown_drewN (n := nq) (World.grownBy.refl W (some g))).trans hg); clear hp hg) | fail)
        go_ret; exact ⟨rfl, HP.out, HG.out⟩
      | false =>
        have hr : onB s a = false := by rw [HON.out, ← HD.out]; rfl
        rw [hr]; clear hr
        go_enter Try.func92, Try.ntmps92
        go_wp2_with fail
        go_quiet (first | (go_at_call 87; exact Calls.quiet_of (HCALL.out _)))
        go_wp2_with fail
        go_ret; exact ⟨rfl, H.out.drewN, grown_drewN (World.grownBy.refl _ _)⟩
  · have e1 : decide ((a : Int) < (s.size : Int)) = false := decide_eq_false (by omega); have e1' : decide (a < s.size) = false := decide_eq_false hlt
    have e1'' : ((a : Int) < (s.size : Int)) = False := by simp; omega
    have hr : onB s a = false := by unfold onB; rw [dif_neg hlt]
    rw [hr]; clear hr hlt
    go_enter Try.func92, Try.ntmps92
    go_wp2_with fail
    refine wp_region_quiet_lit (by kernel_rfl) (by kernel_rfl) ?_
    repeat (first
      | go_big_quiet_skip
      | (go_big_quiet_want; go_big_quiet_op; go_big_quiet_on)
      | (refine BigFrame.wpQuiet_skip (by first | rfl | kernel_rfl | (simp [Region.wanted, yielded]; done)) ?_; simp only [Act.put, List.setIfInBounds_toArray, List.set_cons_zero, List.set_cons_succ]))
    refine wpQuiet_nil ?_; rintro _ ⟨nq, rfl⟩
    go_wp2_with fail
    go_ret; exact ⟨rfl, H.out.drewN, grown_drewN (World.grownBy.refl _ _)⟩
def endF (m : Int) (s : ByteArray) (a : Nat) : Nat := a + ((s.data.toList.drop a).takeWhile (clsB m)).length
theorem endF_stop (m : Int) (s : ByteArray) (a : Nat) (h : ¬ a < s.size) : endF m s a = a := by
  unfold endF; rw [List.drop_of_length_le (by rw [← size_len]; omega)]; simp
theorem endF_step (m : Int) (s : ByteArray) (a : Nat) (h : a < s.size) : endF m s a = if clsB m (s[a]'h) = true then endF m s (a + 1) else a := by
  have hl : a < s.data.toList.length := by rw [← size_len]; exact h
  have he : s.data.toList[a]'hl = s[a]'h := by simp; rfl
  unfold endF; rw [List.drop_eq_getElem_cons hl, he, List.takeWhile_cons]
  split
  · rw [List.length_cons]; omega
  · simp
theorem endF_ge (m : Int) (s : ByteArray) (a : Nat) : a ≤ endF m s a := Nat.le_add_right _ _
theorem endF_le (m : Int) (s : ByteArray) (a : Nat) (h : a ≤ s.size) : endF m s a ≤ s.size := by
  unfold endF; have h1 := (List.takeWhile_prefix (clsB m) (l := s.data.toList.drop a)).length_le; rw [List.length_drop, ← size_len] at h1
  omega
set_option maxRecDepth 100000 in
set_option maxHeartbeats 4000000 in
theorem longest.calls (g : Nat) (s : ByteArray) (a : Nat) (m : Int) (fault : Int) (vl vs : Value) (W : World) (h : Pz W g s a fault vl vs) (hs : s.size ≤ 1099511627776) (ha : a ≤ s.size) :
    Calls Try.prog 60 #[.pointer (some ⟨g, 0, none⟩), .int .u8 m] W fun e W' => e = .returned (.string (s.extract a (endF m s a))) ∧ Pz W' g s (endF m s a) fault vl vs ∧ W.grownBy W' (some g) := by
  obtain ⟨c0, c1, c2, c3, c4⟩ := h.cells; have H := Aside0.mk h; have ha0 : (0 : Int) ≤ (a : Int) := Int.natCast_nonneg _; obtain ⟨E, hE⟩ : ∃ E, E = endF m s a := ⟨_, rfl⟩; rw [← hE]
  have hEs : E ≤ s.size := by rw [hE]; exact endF_le m s a ha
  have hEa : a ≤ E := by rw [hE]; exact endF_ge m s a
  have HE := Aside0.mk hE; clear h hE
  go_enter Try.func60, Try.ntmps60
  go_wp2_with fail
  clear c0 c1 c2 c3 c4
  go_loopg [] (s.size + 1) (fun gk wr_ => ∃ q : Nat, a ≤ q ∧ q ≤ s.size ∧ s.size - q < gk ∧ Aside0 (endF m s q = E) ∧ Pz wr_ g s q fault vl vs ∧ W.grownBy wr_ (some g))
  case atStart => exact ⟨a, Nat.le_refl _, ha, by omega, ⟨HE.out.symm⟩, H.out, World.grownBy.refl _ _⟩
  case round =>
    obtain ⟨q, hqa, hqs, hgk, HQ, hP, hG⟩ := hrel; obtain ⟨g', rfl⟩ : ∃ g', gk = g' + 1 := ⟨gk - 1, by omega⟩; obtain ⟨c0, c1, c2, c3, c4⟩ := hP.cells; have f1 := hP.fz 1; have HP := Aside0.mk hP; have HG := Aside0.mk hG; clear hP hG; have hq0 : (0 : Int) ≤ (q : Int) := Int.natCast_nonneg _
    by_cases hlt : q < s.size
    · have e1 : decide ((q : Int) < (s.size : Int)) = true := decide_eq_true (by omega)
      have hq1 : (q : Int) < (s.size : Int) := by omega
      have hst := endF_step m s q hlt; obtain ⟨b, hb⟩ : ∃ b, b = s[q]'hlt := ⟨_, rfl⟩
      have hbt : ((s[q]'hlt).toNat : Int) = (b.toNat : Int) := by rw [hb]
      rw [← hb] at hst; obtain ⟨x, hx⟩ : ∃ x, x = clsB m b := ⟨_, rfl⟩
      have hcall := fun w => is_calls b m w
      rw [← hx] at hcall hst; have HST := Aside0.mk hst; have HCALL := Aside0.mk hcall; clear hst hcall hx hb
      cases x with
      | true =>
        go_wp2_with fail
        go_quiet (first | (go_at_call 87; exact Calls.quiet_of (HCALL.out _)))
        go_wp2_with fail
        go_roundg g'
        case measure => omega
        case rel => exact ⟨q + 1, by omega, by omega, by omega, ⟨by rw [← HQ.out, HST.out]; simp⟩, HP.out.drewN.setAt _, (grown_drewN HG.out).trans (grown_set _ _ _ _)⟩
      | false =>
        go_wp2_with fail
        go_quiet (first | (go_at_call 87; exact Calls.quiet_of (HCALL.out _)))
        go_wp2_with fail
        have hqe : q = E := by rw [← HQ.out]; rw [HST.out]; simp
        clear HST; subst hqe
        go_quiet (fail)
        go_wp2_with fail
        go_ret; exact ⟨by simp, (show Pz wr g s _ fault vl vs from HP.out), by have h := HG.out; exact ⟨h.os, h.tape, h.output, h.size, h.block⟩⟩
    · have e1 : decide ((q : Int) < (s.size : Int)) = false := decide_eq_false (by omega); have e1' : decide (q < s.size) = false := decide_eq_false hlt
      have hqe : q = E := by rw [← HQ.out]; exact (endF_stop m s q hlt).symm
      clear hlt; subst hqe
      go_wp2_with fail
      go_quiet (fail)
      go_wp2_with fail
      go_quiet (fail)
      go_wp2_with fail
      go_ret; exact ⟨by simp, (show Pz wr g s _ fault vl vs from HP.out), by have h := HG.out; exact ⟨h.os, h.tape, h.output, h.size, h.block⟩⟩
end Go.Proofs.Ytdbjjaodkapikaa.TE
namespace Go.Proofs.Ytdbjjaodkapikaa.TE
open Go.RowKit Go.Shelf Go.Proofs.YtdbjjaodkapikaaW.PrintWords Go.Proofs.YtdbjjaodkapikaaW.PrintLast Go.Proofs.YtdbjjaodkapikaaW.PrintMore Go.Proofs.Ytdbjjaodkapikaa.Evs
set_option linter.unusedVariables false
set_option linter.unusedSimpArgs false
structure Fr (W W' : World) (S : Nat → Prop) : Prop where
  os : W'.os = W.os
  tape : W'.tape = W.tape
  output : W'.output = W.output
  size : W.heap.size ≤ W'.heap.size
  block : ∀ k, k < W.heap.size → ¬ S k → W'.heap[k]? = W.heap[k]?
theorem Fr.refl (W : World) (S : Nat → Prop) : Fr W W S := ⟨rfl, rfl, rfl, Nat.le_refl _, fun _ _ _ => rfl⟩
theorem Fr.of_grown {W W' : World} {row : Option Nat} {S : Nat → Prop} (h : W.grownBy W' row) (hs : ∀ k, row = some k → S k) : Fr W W' S :=
  ⟨h.os, h.tape, h.output, h.size, fun k hk hn => h.block k hk (fun e => hn (hs k e.symm))⟩
theorem Fr.trans {A B C : World} {S : Nat → Prop} (h : Fr A B S) (k : Fr B C S) : Fr A C S :=
  ⟨k.os.trans h.os, k.tape.trans h.tape, k.output.trans h.output, Nat.le_trans h.size k.size, fun i hi hn => (k.block i (Nat.lt_of_lt_of_le hi h.size) hn).trans (h.block i hi hn)⟩
theorem Fr.mono {A B : World} {S T : Nat → Prop} (h : Fr A B S) (hs : ∀ k, k < A.heap.size → S k → T k) : Fr A B T := ⟨h.os, h.tape, h.output, h.size, fun k hk hn => h.block k hk (fun e => hn (hs k hk e))⟩
theorem info_term : (Try.prog.info? 42).map (fun i => (i.zero, i.size, i.bytes)) = some (some (.agg #[.int .i64 0, .string ⟨#[]⟩, .slice none 0 0]), 3, 48) := by kernel_rfl
set_option maxRecDepth 100000 in
set_option maxHeartbeats 4000000 in
theorem add0.calls (g base : Nat) (s : ByteArray) (at_ fault x : Int) (vl vs : Value) (n : Nat) (xs : List Value) (k : Int) (tx : ByteArray) (A : Option Addr) (c : Nat) (l : List Tm) (kk : Nat) (W : World) (h : Pz W g s at_ fault vl vs) (ho : W.ownsRow base 42 3 vl n xs) (hb : base ≤ g) (hn8 : n ≤ 1099511627776) (hxs : xs.length = n * 3) (hC : Kd.C k42 W A l.length l) (hc : l.length ≤ c)
    (hr : term_right.f kk k tx l = some false) :
    Calls Try.prog 90 #[.pointer (some ⟨g, 0, none⟩), .agg #[.int .i64 k, .string tx, .slice A l.length c], .int .i64 x] W fun e W' => e = .returned (.bool false) ∧ Pz W' g s at_ (failF fault x) vl vs ∧ Fr W W' (fun i => i = g) := by
  have hbl : Below W.heap.size W (W.alloc (.cells #[.int .i64 k, .string tx, .slice A l.length c] 42)) := (Below.refl _ _).alloc (Nat.le_refl _) _; have hn0 := World.alloc_heap_new W (.cells #[.int .i64 k, .string tx, .slice A l.length c] 42); obtain ⟨W0, hW0⟩ : ∃ W0, W.alloc (.cells #[.int .i64 k, .string tx, .slice A l.length c] 42) = W0 := ⟨_, rfl⟩; have HW0 := Aside0.mk hW0; rw [hW0] at hbl hn0; have x0 : W0.cell? ⟨W.heap.size, 0, none⟩ = some (.int .i64 k) := (q5 hn0 0).trans rfl; have x1 : W0.cell? ⟨W.heap.size, 1, none⟩ = some (.string tx) := (q5 hn0 1).trans rfl; have x2 : W0.cell? ⟨W.heap.size, 2, none⟩ = some (.slice A l.length c) := (q5 hn0 2).trans rfl; have hp0 : Pz W0 g s at_ fault vl vs := (hbl.block g (Array.getElem?_eq_some_iff.1 h).1).trans h; have hcall := term_right.calls kk k tx A c l false W0 (Kd.C_below hC hbl) hc hr; have HCALL := Aside0.mk hcall; have HP0 := Aside0.mk hp0; have HBL := Aside0.mk hbl; clear hcall hp0 hbl hW0 hn0 hC ho h
  go_enter Try.func90, Try.ntmps90
  go_wp2_with fail
  rw [HW0.out]; refine HCALL.out.mono ?_; rintro e w1 ⟨rfl, hb1⟩; have HP1 := Aside0.mk (show Pz w1 g s at_ fault vl vs from (hb1.block g (Array.getElem?_eq_some_iff.1 HP0.out).1).trans HP0.out); have HB1 := Aside0.mk (HBL.out.trans (hb1.mono HBL.out.size)); clear hb1
  go_wp2_with (first | (go_at_call 96; refine (fail.calls g s at_ fault x vl vs _ HP1.out).mono ?_; rintro e w' ⟨rfl, hp, hg⟩; have HP := Aside0.mk hp; have HG := Aside0.mk hg; clear hp hg) | fail)
  go_ret; exact ⟨rfl, HP.out, (Fr.mk HB1.out.os HB1.out.tape HB1.out.output HB1.out.size (fun i hi _ => HB1.out.block i hi)).trans (Fr.of_grown HG.out (fun i e => by cases e; rfl))⟩
theorem row_facts {w : World} {base b n c : Nat} {xs : List Value} {x y z : Value} (h : w.ownsRow base 42 3 (.slice (some ⟨b, 0, none⟩) (n + 1) c) (n + 1) (xs ++ [x, y, z])) (hx : xs.length = n * 3) :
    w.cell? ⟨b, n * 3, none⟩ = some x ∧ w.cell? ⟨b, n * 3 + 1, none⟩ = some y ∧ w.cell? ⟨b, n * 3 + 2, none⟩ = some z ∧ w.frozen? ⟨b, n * 3, none⟩ = false ∧ w.frozen? ⟨b, n * 3 + 1, none⟩ = false ∧ w.frozen? ⟨b, n * 3 + 2, none⟩ = false :=
  ⟨(h.cellAt _ (by omega)).trans (by rw [List.getElem?_append_right (by omega), hx, Nat.sub_self]; rfl), (h.cellAt _ (by omega)).trans (by rw [List.getElem?_append_right (by omega), hx, show n * 3 + 1 - n * 3 = 1 by omega]; rfl),
    (h.cellAt _ (by omega)).trans (by rw [List.getElem?_append_right (by omega), hx, show n * 3 + 2 - n * 3 = 2 by omega]; rfl), h.frozenAt _, h.frozenAt _, h.frozenAt _⟩
theorem own_ne {w : World} {base n : Nat} {v : Value} {xs : List Value} {g : Nat} {s : ByteArray} {at_ fault : Int} {vl vs : Value} (h : w.ownsRow base 42 3 v n xs) (hp : Pz w g s at_ fault vl vs) : some g ≠ v.ownBlock := by
  rcases h.2 with ⟨rfl, _⟩ | ⟨b, cap, cur, rfl, _, hk, _⟩
  · simp [Value.ownBlock]
  · intro e
    obtain rfl : g = b := by simpa [Value.ownBlock] using e
    rw [show w.heap[g]? = _ from hp] at hk
    injection hk with hk
    injection hk with _ h2 _
    exact absurd h2 (by decide)
theorem run_append_own2 {P : Program} (w : World) (base : Nat) (t ty e : TypeId) (i : TypeInfo) (z : Value) (size bytes : Nat) (ht : P.underlying t = some (.slice e)) (hi : P.info? e = some i) (hz : i.zero = some z)
    (hsize : i.size = size) (hby : i.bytes = bytes) (hzs : z.cells.size = size) (hsz : 0 < size)
    (v : Value) (n : Nat) (xs : List Value) (hown : w.ownsRow base e size v n xs)
    (a : Addr) (m c : Nat) (news : List Value) (hl : news.length = m * size) (hnews : ∀ j u, news[j]? = some u → w.cell? (a.add j) = some u) (h1 : ∀ u ∈ news, u.oneCell' = true)
    (h63 : n + m ≤ maxLen) (hbytes : (n + m) * bytes ≤ 140737488355328) (hbase : base ≤ w.heap.size) :
    ∃ v' w', (Builtin.append_ #[t, t] ty #[v, .slice (some a) m c]).run P w = .ok v' w' ∧ w'.ownsRow base e size v' (n + m) (xs ++ news) ∧ w.grownBy w' v.ownBlock ∧ (∀ b, v'.ownBlock = some b → v.ownBlock = some b ∨ w.heap.size ≤ b) := by
  rcases hown.2 with ⟨rfl, rfl⟩ | ⟨g, cap, cur, rfl, hbg, hg, hnc, hcm, hcs, htake⟩
  · obtain ⟨v', w', h1, h2, h3, _⟩ := run_append_own (P := P) w w.heap.size t ty e i z size bytes ht hi hz hsize hby hzs hsz _ 0 xs ⟨hown.1, .inl ⟨rfl, rfl⟩⟩ a m c news hl hnews h1 h63 hbytes (Nat.le_refl _); refine ⟨v', w', h1, ⟨h2.1, ?_⟩, h3, fun b hb => .inr ?_⟩
    · rcases h2.2 with h4 | ⟨g', cap', cur', e', hb', h5⟩
      · exact .inl h4
      · exact .inr ⟨g', cap', cur', e', Nat.le_trans hbase hb', h5⟩
    · rcases h2.2 with ⟨rfl, _⟩ | ⟨g', cap', cur', rfl, hb', _⟩
      · simp [Value.ownBlock] at hb
      · obtain rfl : g' = b := by simpa [Value.ownBlock] using hb
        exact hb'
  · by_cases hr : cap < n + m
    · obtain ⟨v', w', h1, h2, h3⟩ := run_append_arg_grows (P := P) w t ty e i z size bytes ht hi hz hsize hby hzs hsz ⟨g, 0, none⟩ n cap xs hown.1 (hown.cells (g := g) rfl) a m c news hl hnews hr h63 hbytes; refine ⟨v', w', h1, ⟨h2.1, ?_⟩, ⟨h3.os, h3.tape, h3.output, h3.size, fun k hk _ => h3.block k hk (by simp)⟩, fun b hb => .inr ?_⟩
      · rcases h2.2 with h4 | ⟨g', cap', cur', e', hb', h5⟩
        · exact .inl h4
        · exact .inr ⟨g', cap', cur', e', Nat.le_trans hbase hb', h5⟩
      · rcases h2.2 with ⟨rfl, _⟩ | ⟨g', cap', cur', rfl, hb', _⟩
        · simp [Value.ownBlock] at hb
        · obtain rfl : g' = b := by simpa [Value.ownBlock] using hb
          exact hb'
    · obtain ⟨w', h1, h2, h3⟩ := run_append_fits (P := P) w base t ty e i size ht hi hsize g n cap xs hown a m c news hl hnews h1 (by omega); exact ⟨_, w', h1, h2, h3, fun b hb => .inl hb⟩
theorem step_append_own2 {P : Program} (w : World) {ops : Array Oper} {o : Oper} {a : Act} {K : Act → World → Prop} {Q : Exit → Act → World → Prop} {E : Prop} (hgd : o.guard = none) (s x : Operand) (t : TypeId)
    (ho : o.op = .call { callee := .builtin .append, args := #[s, x], argTypes := #[t, t] })
    (base : Nat) (e : TypeId) (i : TypeInfo) (z : Value) (size bytes : Nat) (ht : P.underlying t = some (.slice e)) (hi : P.info? e = some i) (hz : i.zero = some z)
    (hsize : i.size = size) (hby : i.bytes = bytes) (hzs : z.cells.size = size) (hsz : 0 < size)
    (v : Value) (n : Nat) (xs : List Value) (hs : a.eval s = v) (hown : w.ownsRow base e size v n xs)
    (ad : Addr) (m c : Nat) (news : List Value) (hx : a.eval x = .slice (some ad) m c) (hl : news.length = m * size) (hnews : ∀ j u, news[j]? = some u → w.cell? (ad.add j) = some u) (h1 : ∀ u ∈ news, u.oneCell' = true)
    (h63 : n + m ≤ maxLen) (hbytes : (n + m) * bytes ≤ 140737488355328) (hbase : base ≤ w.heap.size)
    (h : ∀ v' w', w'.ownsRow base e size v' (n + m) (xs ++ news) → w.grownBy w' v.ownBlock → (∀ b, v'.ownBlock = some b → v.ownBlock = some b ∨ w.heap.size ≤ b) → K (a.put o.dst v') w') :
    if Region.wanted o (yielded ops a.tmps) = true then Oper.wp P o a w K Q else E := by
  have hw : Region.wanted o (yielded ops a.tmps) = true := by simp [Region.wanted, hgd]
  rw [if_pos hw]; obtain ⟨v', w', hr, h2, h3, h4⟩ := run_append_own2 (P := P) w base t o.type e i z size bytes ht hi hz hsize hby hzs hsz v n xs hown ad m c news hl hnews h1 h63 hbytes hbase; unfold Oper.wp execOp; simp only [ho, resolve, invoke, builtin, Sem.run_bind, Sem.run_pure, Result.andThen_ok, List.map_toArray, List.map_cons, List.map_nil, hs, hx, hr]; exact h v' w' h2 h3 h4
theorem row_stored {w : World} {base b n c : Nat} {xs : List Value} {x y z : Value} (x' y' z' : Value) (h : w.ownsRow base 42 3 (.slice (some ⟨b, 0, none⟩) (n + 1) c) (n + 1) (xs ++ [x, y, z])) (hx : xs.length = n * 3) :
    (((w.setCell ⟨b, n * 3, none⟩ x').setCell ⟨b, n * 3 + 1, none⟩ y').setCell ⟨b, n * 3 + 2, none⟩ z').ownsRow base 42 3 (.slice (some ⟨b, 0, none⟩) (n + 1) c) (n + 1) (xs ++ [x', y', z']) ∧
      w.grownBy (((w.setCell ⟨b, n * 3, none⟩ x').setCell ⟨b, n * 3 + 1, none⟩ y').setCell ⟨b, n * 3 + 2, none⟩ z') (some b) := by
  obtain ⟨k1, g1⟩ := h.stored (n * 3) x'; obtain ⟨k2, g2⟩ := k1.stored (n * 3 + 1) y'; obtain ⟨k3, g3⟩ := k2.stored (n * 3 + 2) z'
  have e : (((xs ++ [x, y, z]).set (n * 3) x').set (n * 3 + 1) y').set (n * 3 + 2) z' = xs ++ [x', y', z'] := by
    rw [List.set_append_right _ _ (by omega), hx, Nat.sub_self, List.set_append_right _ _ (by omega), hx, show n * 3 + 1 - n * 3 = 1 by omega, List.set_append_right _ _ (by omega), hx, show n * 3 + 2 - n * 3 = 2 by omega]; rfl
  rw [e] at k3; exact ⟨k3, (g1.trans g2).trans g3⟩
theorem own_far {w : World} {base n : Nat} {v : Value} {xs : List Value} (h : w.ownsRow base 42 3 v n xs) (g i : Nat) (u : Value) (hne : some g ≠ v.ownBlock) : (w.setCell ⟨g, i, none⟩ u).ownsRow base 42 3 v n xs := by
  obtain ⟨h1, h2⟩ := h; refine ⟨h1, ?_⟩
  rcases h2 with h2 | ⟨b, cap, cur, rfl, hb, hh, r⟩
  · exact .inl h2
  · exact .inr ⟨b, cap, cur, rfl, hb, (Below.heap_setCell w ⟨g, i, none⟩ u b (fun e => hne (by rw [show g = b from e.symm]; rfl))).trans hh, r⟩
theorem Pz.far {W : World} {g : Nat} {s : ByteArray} {at_ fault : Int} {vl vs : Value} (h : Pz W g s at_ fault vl vs) (b i : Nat) (u : Value) (hne : g ≠ b) : Pz (W.setCell ⟨b, i, none⟩ u) g s at_ fault vl vs := (Below.heap_setCell W ⟨b, i, none⟩ u g hne).trans h
theorem own_below3 {w W : World} {base n : Nat} {v : Value} {xs : List Value} (h : w.ownsRow base 42 3 v n xs) (hb : Below w.heap.size w W) : W.ownsRow base 42 3 v n xs := by
  obtain ⟨h1, h2⟩ := h; refine ⟨h1, ?_⟩
  rcases h2 with h2 | ⟨b, cap, cur, rfl, hbb, hh, r⟩
  · exact .inl h2
  · exact .inr ⟨b, cap, cur, rfl, hbb, (hb.block b (Array.getElem?_eq_some_iff.1 hh).1).trans hh, r⟩
theorem fr_step {A B C : World} {S T : Nat → Prop} {b : Nat} (h : Fr A B S) (hb : T b ∨ A.heap.size ≤ b) (g : B.grownBy C (some b)) (hs : ∀ i, S i → T i) : Fr A C T :=
  ⟨g.os.trans h.os, g.tape.trans h.tape, g.output.trans h.output, Nat.le_trans h.size g.size, fun k hk hn => (g.block k (Nat.lt_of_lt_of_le hk h.size) (fun e => by
    obtain rfl : k = b := by cases e; rfl
    rcases hb with hb | hb
    · exact hn hb
    · omega)).trans (h.block k hk (fun e => hn (hs k e)))⟩
theorem fin_fr {W w5 w6 w7 : World} {v : Value} {g b : Nat} (h : Fr W w5 (fun i => some i = v.ownBlock)) (hb : some b = v.ownBlock ∨ W.heap.size ≤ b) (g1 : w5.grownBy w6 (some b)) (g2 : w6.grownBy w7 (some g)) : Fr W w7 (fun i => i = g ∨ some i = v.ownBlock) :=
  fr_step (T := fun i => i = g ∨ some i = v.ownBlock) (fr_step (T := fun i => some i = v.ownBlock) h hb g1 (fun i e => e)) (.inl (.inl rfl)) g2 (fun i e => .inr e)
theorem fin_fr2 {W w5 w6 w7 : World} {v : Value} {g b : Nat} (h : Fr W w5 (fun i => some i = v.ownBlock)) (hb : some b = v.ownBlock ∨ W.heap.size ≤ b) (g1 : w5.grownBy w6 (some g)) (g2 : w6.grownBy w7 (some b)) : Fr W w7 (fun i => i = g ∨ some i = v.ownBlock) :=
  fr_step (T := fun i => i = g ∨ some i = v.ownBlock) (fr_step (T := fun i => i = g ∨ some i = v.ownBlock) h (.inl (.inl rfl)) g1 (fun i e => .inr e)) (hb.imp .inr id) g2 (fun i e => e)
end Go.Proofs.Ytdbjjaodkapikaa.TE
end
section
namespace Go.Proofs.Ytdbjjaodkapikaa.TE
open Go.RowKit Go.Shelf Go.Proofs.YtdbjjaodkapikaaW.PrintWords Go.Proofs.YtdbjjaodkapikaaW.PrintLast Go.Proofs.YtdbjjaodkapikaaW.PrintMore Go.Proofs.Ytdbjjaodkapikaa.Evs
set_option linter.unusedVariables false
set_option linter.unusedSimpArgs false
theorem grown_da (w : World) (o : Obj) : w.grownBy (w.drew.alloc o) none := by
  have h := World.grownBy_alloc w.drew o none; exact ⟨h.os, h.tape, h.output, h.size, h.block⟩
theorem zero_at (w : World) : ∀ j u, ([.int .i64 0, .string ⟨#[]⟩, .slice none 0 0] : List Value)[j]? = some u → (w.drew.alloc (.cells #[.int .i64 0, .string ⟨#[]⟩, .slice none 0 0] 42)).cell? ((⟨w.heap.size, 0, none⟩ : Addr).add j) = some u := by
  intro j u hj; rw [add_plain]; refine (q5 (World.alloc_heap_new w.drew _) j).trans ?_
  match j, hj with
  | 0, hj => exact hj
  | 1, hj => exact hj
  | 2, hj => exact hj
theorem new_own {W : World} {v : Value} {b5 n c5 : Nat} (h : some b5 = v.ownBlock ∨ W.heap.size ≤ b5) : ∀ b, (Value.slice (some ⟨b5, 0, none⟩) n c5).ownBlock = some b → v.ownBlock = some b ∨ W.heap.size ≤ b := by
  intro b hb
  obtain rfl : b5 = b := by simpa [Value.ownBlock] using hb
  exact h.imp Eq.symm id
theorem add_finA {W w5 : World} {g base n b5 c5 : Nat} {s : ByteArray} {at_ fault : Int} {v vs v6 t0 t1 t2 z0 z1 z2 : Value} {xs : List Value} (h6 : v6 = .bool true) (hp : Aside0 (Pz w5 g s at_ fault v vs)) (ho : Aside0 (w5.ownsRow base 42 3 (.slice (some ⟨b5, 0, none⟩) (n + 1) c5) (n + 1) (xs ++ [z0, z1, z2])))
    (hf : Aside0 (Fr W w5 (fun i => some i = v.ownBlock))) (hn : Aside0 (some b5 = v.ownBlock ∨ W.heap.size ≤ b5)) (hxs : xs.length = n * 3) (hgb : g ≠ b5) :
    Ending.returned v6 = .returned (.bool true) ∧ ∃ vl', Pz ((((w5.setCell ⟨b5, n * 3, none⟩ t0).setCell ⟨b5, n * 3 + 1, none⟩ t1).setCell ⟨b5, n * 3 + 2, none⟩ t2).setCell ⟨g, 3, none⟩ (.slice (some ⟨b5, 0, none⟩) (n + 1) c5)) g s at_ fault vl' vs ∧
      ((((w5.setCell ⟨b5, n * 3, none⟩ t0).setCell ⟨b5, n * 3 + 1, none⟩ t1).setCell ⟨b5, n * 3 + 2, none⟩ t2).setCell ⟨g, 3, none⟩ (.slice (some ⟨b5, 0, none⟩) (n + 1) c5)).ownsRow base 42 3 vl' (n + 1) (xs ++ [t0, t1, t2]) ∧ (∀ b, vl'.ownBlock = some b → v.ownBlock = some b ∨ W.heap.size ≤ b) ∧
      Fr W ((((w5.setCell ⟨b5, n * 3, none⟩ t0).setCell ⟨b5, n * 3 + 1, none⟩ t1).setCell ⟨b5, n * 3 + 2, none⟩ t2).setCell ⟨g, 3, none⟩ (.slice (some ⟨b5, 0, none⟩) (n + 1) c5)) (fun i => i = g ∨ some i = v.ownBlock) := by
  obtain ⟨h1, h2⟩ := row_stored t0 t1 t2 ho.out hxs; refine ⟨by rw [h6], _, (((hp.out.far b5 _ _ hgb).far b5 _ _ hgb).far b5 _ _ hgb).setList _, own_far h1 g 3 _ ?_, new_own hn.out, fin_fr hf.out hn.out h2 (grown_set _ g 3 _)⟩; simp [Value.ownBlock]; exact hgb
theorem add_finB {W w5 : World} {g base n b5 c5 : Nat} {s : ByteArray} {at_ fault : Int} {v vs v6 t0 t1 t2 z0 z1 z2 : Value} {xs : List Value} (h6 : v6 = .bool true) (hp : Aside0 (Pz w5 g s at_ fault v vs)) (ho : Aside0 (w5.ownsRow base 42 3 (.slice (some ⟨b5, 0, none⟩) (n + 1) c5) (n + 1) (xs ++ [z0, z1, z2])))
    (hf : Aside0 (Fr W w5 (fun i => some i = v.ownBlock))) (hn : Aside0 (some b5 = v.ownBlock ∨ W.heap.size ≤ b5)) (hxs : xs.length = n * 3) (hgb : g ≠ b5) :
    Ending.returned v6 = .returned (.bool true) ∧ ∃ vl', Pz ((((w5.setCell ⟨g, 3, none⟩ (.slice (some ⟨b5, 0, none⟩) (n + 1) c5)).setCell ⟨b5, n * 3, none⟩ t0).setCell ⟨b5, n * 3 + 1, none⟩ t1).setCell ⟨b5, n * 3 + 2, none⟩ t2) g s at_ fault vl' vs ∧
      ((((w5.setCell ⟨g, 3, none⟩ (.slice (some ⟨b5, 0, none⟩) (n + 1) c5)).setCell ⟨b5, n * 3, none⟩ t0).setCell ⟨b5, n * 3 + 1, none⟩ t1).setCell ⟨b5, n * 3 + 2, none⟩ t2).ownsRow base 42 3 vl' (n + 1) (xs ++ [t0, t1, t2]) ∧ (∀ b, vl'.ownBlock = some b → v.ownBlock = some b ∨ W.heap.size ≤ b) ∧
      Fr W ((((w5.setCell ⟨g, 3, none⟩ (.slice (some ⟨b5, 0, none⟩) (n + 1) c5)).setCell ⟨b5, n * 3, none⟩ t0).setCell ⟨b5, n * 3 + 1, none⟩ t1).setCell ⟨b5, n * 3 + 2, none⟩ t2) (fun i => i = g ∨ some i = v.ownBlock) := by
  have hgo : some g ≠ (Value.slice (some ⟨b5, 0, none⟩) (n + 1) c5).ownBlock := by simp [Value.ownBlock]; exact hgb
  obtain ⟨h1, h2⟩ := row_stored t0 t1 t2 (own_far ho.out g 3 (.slice (some ⟨b5, 0, none⟩) (n + 1) c5) hgo) hxs; exact ⟨by rw [h6], _, (((hp.out.setList _).far b5 _ _ hgb).far b5 _ _ hgb).far b5 _ _ hgb, h1, new_own hn.out, fin_fr2 hf.out hn.out (grown_set _ g 3 _) h2⟩
set_option maxRecDepth 100000 in
set_option maxHeartbeats 4000000 in
theorem add1.calls (g base : Nat) (s : ByteArray) (at_ fault x : Int) (vl vs : Value) (n : Nat) (xs : List Value) (k : Int) (tx : ByteArray) (A : Option Addr) (c : Nat) (l : List Tm) (kk : Nat) (W : World) (h : Pz W g s at_ fault vl vs) (ho : W.ownsRow base 42 3 vl n xs) (hb : base ≤ g) (hn8 : n ≤ 1099511627776) (hxs : xs.length = n * 3) (hC : Kd.C k42 W A l.length l) (hc : l.length ≤ c)
    (hr : term_right.f kk k tx l = some true) :
    Calls Try.prog 90 #[.pointer (some ⟨g, 0, none⟩), .agg #[.int .i64 k, .string tx, .slice A l.length c], .int .i64 x] W fun e W' => e = .returned (.bool true) ∧ ∃ vl', Pz W' g s at_ fault vl' vs ∧ W'.ownsRow base 42 3 vl' (n + 1) (xs ++ [.int .i64 k, .string tx, .slice A l.length c]) ∧ (∀ b, vl'.ownBlock = some b → vl.ownBlock = some b ∨ W.heap.size ≤ b) ∧ Fr W W' (fun i => i = g ∨ some i = vl.ownBlock) := by
  have hbl : Below W.heap.size W (W.alloc (.cells #[.int .i64 k, .string tx, .slice A l.length c] 42)) := (Below.refl _ _).alloc (Nat.le_refl _) _; have hn0 := World.alloc_heap_new W (.cells #[.int .i64 k, .string tx, .slice A l.length c] 42); obtain ⟨W0, hW0⟩ : ∃ W0, W.alloc (.cells #[.int .i64 k, .string tx, .slice A l.length c] 42) = W0 := ⟨_, rfl⟩; have HW0 := Aside0.mk hW0; rw [hW0] at hbl hn0; have x0 : W0.cell? ⟨W.heap.size, 0, none⟩ = some (.int .i64 k) := (q5 hn0 0).trans rfl; have x1 : W0.cell? ⟨W.heap.size, 1, none⟩ = some (.string tx) := (q5 hn0 1).trans rfl; have x2 : W0.cell? ⟨W.heap.size, 2, none⟩ = some (.slice A l.length c) := (q5 hn0 2).trans rfl; have hp0 : Pz W0 g s at_ fault vl vs := (hbl.block g (Array.getElem?_eq_some_iff.1 h).1).trans h; have hcall := term_right.calls kk k tx A c l true W0 (Kd.C_below hC hbl) hc hr; have HCALL := Aside0.mk hcall; have HP0 := Aside0.mk hp0; have HBL := Aside0.mk hbl; have HN0 := Aside0.mk hn0; have HOW := Aside0.mk ho; clear hcall hp0 hbl hW0 hn0 hC ho h
  go_enter Try.func90, Try.ntmps90
  go_wp2_with fail
  rw [HW0.out]; refine HCALL.out.mono ?_; rintro e w1 ⟨rfl, hb1⟩; have HP1 := Aside0.mk (show Pz w1 g s at_ fault vl vs from (hb1.block g (Array.getElem?_eq_some_iff.1 HP0.out).1).trans HP0.out); have HB1 := Aside0.mk (HBL.out.trans (hb1.mono HBL.out.size)); have HX0 := (hb1.block _ (Array.getElem?_eq_some_iff.1 HN0.out).1).trans HN0.out; have HO1 := HOW.out; clear hb1; have hx0 : w1.heap[W.heap.size]? = some (.cells #[.int .i64 k, .string tx, .slice A l.length c] 42 (0, 0)) := HX0
  obtain ⟨av, cv, hvl⟩ : ∃ av cv, vl = .slice av n cv := by
    rcases HOW.out.2 with ⟨hv, h0⟩ | ⟨b, cap, cur, hv, _⟩
    · exact ⟨none, 0, by rw [hv, h0]⟩
    · exact ⟨_, _, hv⟩
  subst hvl; obtain ⟨p0, p1, p2, p3, p4⟩ := HP1.out.cells; have y0 : w1.cell? ⟨W.heap.size, 0, none⟩ = some (.int .i64 k) := (q5 hx0 0).trans rfl; have y1 : w1.cell? ⟨W.heap.size, 1, none⟩ = some (.string tx) := (q5 hx0 1).trans rfl; have y2 : w1.cell? ⟨W.heap.size, 2, none⟩ = some (.slice A l.length c) := (q5 hx0 2).trans rfl; have hgl : g < w1.heap.size := (Array.getElem?_eq_some_iff.1 HP1.out).1; have hwl : W.heap.size < w1.heap.size := (Array.getElem?_eq_some_iff.1 hx0).1; have HX0' := Aside0.mk hx0; clear hx0 p0 p1 p2 p4
  go_wp2_with fail
  obtain ⟨i0, hi, hz0, hz1, hz2⟩ := info_parts info_term
  have hnn : (n : Int) < (n : Int) + 1 := by omega
  have hnn0 : (0 : Int) ≤ (n : Int) := Int.natCast_nonneg _; have hbs : base ≤ w1.heap.size := Nat.le_trans hb (Nat.le_of_lt hgl); have HOA : Aside0 (w1.ownsRow base 42 3 (.slice av n cv) n xs) := ⟨own_below3 HOW.out HB1.out⟩
  go_region_law ((refine step_append_own2 _ rfl _ _ 22 rfl base 42 i0 (.agg #[.int .i64 0, .string ⟨#[]⟩, .slice none 0 0]) 3 48 Try.underlying22 hi hz0 hz1 hz2 rfl (by decide) _ _ _ rfl (HOA.out.drew.alloc _) ⟨w1.heap.size, 0, none⟩ 1 1 [.int .i64 0, .string ⟨#[]⟩, .slice none 0 0] rfl rfl (zero_at w1) (by simp [Value.oneCell']) (by simp only [maxLen]; omega) (by omega) (by simp; omega) ?_; intro v5 w5 hown5 hgrow5 hnew5; have HF5 := Aside0.mk (show Fr W w5 (fun i => some i = (Value.slice av n cv).ownBlock) from ((Fr.mk HB1.out.os HB1.out.tape HB1.out.output HB1.out.size (fun i hi _ => HB1.out.block i hi) : Fr W w1 _).trans (Fr.of_grown (row := none) (grown_da w1 (.cells #[.int .i64 0, .string ⟨#[]⟩, .slice none 0 0] 42)) (fun i e => nomatch e))).trans (Fr.of_grown hgrow5 (fun i e => e.symm))); obtain ⟨b5, c5, hv5⟩ : ∃ b5 c5, v5 = .slice (some ⟨b5, 0, none⟩) (n + 1) c5 := (by rcases hown5.2 with ⟨_, h0⟩ | ⟨b, cap, cur, hv, _⟩; (· omega); (· exact ⟨_, _, hv⟩)); subst hv5; obtain ⟨q0, q1, q2, r0, r1, r2⟩ := row_facts hown5 hxs; have HP5 : Pz w5 g s at_ fault (.slice av n cv) vs := Pz.grown (Pz.grown (show Pz w1.drew g s at_ fault (.slice av n cv) vs from HP1.out) (World.grownBy_alloc w1.drew (.cells #[.int .i64 0, .string ⟨#[]⟩, .slice none 0 0] 42) none) (by simp)) hgrow5 (own_ne HOA.out HP1.out); have hb5g : b5 ≠ g := (fun e => own_ne hown5 HP5 (by rw [e]; rfl)); have p53 := HP5.cells.2.2.2.1; have pf3 := HP5.fz 3; have HO5 := Aside0.mk hown5; have HG5 := Aside0.mk hgrow5; have HP5' := Aside0.mk HP5; have hgl5 : g < w5.heap.size := (Array.getElem?_eq_some_iff.1 HP5).1; have hgb : g ≠ b5 := hb5g.symm; have HNEW5 : Aside0 (some b5 = (Value.slice av n cv).ownBlock ∨ W.heap.size ≤ b5) := ⟨(hnew5 b5 rfl).imp Eq.symm (fun h => Nat.le_trans HB1.out.size (Nat.le_trans (by simp) h))⟩; clear hown5 hgrow5 HP5 hnew5 HG5))
  all_goals
    clear q0 q1 q2 r0 r1 r2 p53 pf3 p3 y0 y1 y2
    go_wp2
    go_ret
    first
    | (with_reducible refine add_finA ?_ HP5' HO5 HF5 HNEW5 hxs hgb)
    | (with_reducible refine add_finB ?_ HP5' HO5 HF5 HNEW5 hxs hgb)
    rfl
end Go.Proofs.Ytdbjjaodkapikaa.TE
namespace Go.Proofs.Ytdbjjaodkapikaa.TE
open Go.RowKit Go.Shelf Go.Proofs.YtdbjjaodkapikaaW.PrintWords Go.Proofs.YtdbjjaodkapikaaW.PrintLast Go.Proofs.YtdbjjaodkapikaaW.PrintMore Go.Proofs.Ytdbjjaodkapikaa.Evs
set_option linter.unusedVariables false
set_option linter.unusedSimpArgs false
theorem info_open : (Try.prog.info? 122).map (fun i => (i.zero, i.size, i.bytes)) = some (some (.agg #[.slice none 0 0, .int .i64 0, .string ⟨#[]⟩, .slice none 0 0]), 4, 72) := by kernel_rfl
theorem own_farG {w : World} {base n e z : Nat} {v : Value} {xs : List Value} (h : w.ownsRow base e z v n xs) (g i : Nat) (u : Value) (hne : some g ≠ v.ownBlock) : (w.setCell ⟨g, i, none⟩ u).ownsRow base e z v n xs := by
  obtain ⟨h1, h2⟩ := h; refine ⟨h1, ?_⟩
  rcases h2 with h2 | ⟨b, cap, cur, rfl, hb, hh, r⟩
  · exact .inl h2
  · exact .inr ⟨b, cap, cur, rfl, hb, (Below.heap_setCell w ⟨g, i, none⟩ u b (fun e => hne (by rw [show g = b from e.symm]; rfl))).trans hh, r⟩
theorem own_below4 {w W : World} {base n e z : Nat} {v : Value} {xs : List Value} (h : w.ownsRow base e z v n xs) (hb : Below w.heap.size w W) : W.ownsRow base e z v n xs := by
  obtain ⟨h1, h2⟩ := h; refine ⟨h1, ?_⟩
  rcases h2 with h2 | ⟨b, cap, cur, rfl, hbb, hh, r⟩
  · exact .inl h2
  · exact .inr ⟨b, cap, cur, rfl, hbb, (hb.block b (Array.getElem?_eq_some_iff.1 hh).1).trans hh, r⟩
theorem own_neG {w : World} {base n e z : Nat} {v : Value} {xs : List Value} {g : Nat} {s : ByteArray} {at_ fault : Int} {vl vs : Value} (h : w.ownsRow base e z v n xs) (he : e ≠ 72) (hp : Pz w g s at_ fault vl vs) : some g ≠ v.ownBlock := by
  rcases h.2 with ⟨rfl, _⟩ | ⟨b, cap, cur, rfl, _, hk, _⟩
  · simp [Value.ownBlock]
  · intro e
    obtain rfl : g = b := by simpa [Value.ownBlock] using e
    rw [show w.heap[g]? = _ from hp] at hk
    injection hk with hk
    injection hk with _ h2 _
    exact absurd h2.symm he
theorem begin_fin {W w5 : World} {g base n b5 c5 : Nat} {s : ByteArray} {at_ fault : Int} {v vl v6 : Value} {xs : List Value} (h6 : v6 = .bool true) (hp : Aside0 (Pz w5 g s at_ fault vl v)) (ho : Aside0 (w5.ownsRow base 122 4 (.slice (some ⟨b5, 0, none⟩) (n + 1) c5) (n + 1) xs))
    (hf : Aside0 (Fr W w5 (fun i => some i = v.ownBlock))) (hn : Aside0 (some b5 = v.ownBlock ∨ W.heap.size ≤ b5)) (hgb : g ≠ b5) :
    Ending.returned v6 = .returned (.bool true) ∧ ∃ vs', Pz ((w5.setCell ⟨g, 4, none⟩ (.slice (some ⟨b5, 0, none⟩) (n + 1) c5)).setCell ⟨g, 3, none⟩ (.slice none 0 0)) g s at_ fault (.slice none 0 0) vs' ∧
      ((w5.setCell ⟨g, 4, none⟩ (.slice (some ⟨b5, 0, none⟩) (n + 1) c5)).setCell ⟨g, 3, none⟩ (.slice none 0 0)).ownsRow base 122 4 vs' (n + 1) xs ∧ (∀ b, vs'.ownBlock = some b → v.ownBlock = some b ∨ W.heap.size ≤ b) ∧
      Fr W ((w5.setCell ⟨g, 4, none⟩ (.slice (some ⟨b5, 0, none⟩) (n + 1) c5)).setCell ⟨g, 3, none⟩ (.slice none 0 0)) (fun i => i = g ∨ some i = v.ownBlock) := by
  have hgo : some g ≠ (Value.slice (some ⟨b5, 0, none⟩) (n + 1) c5).ownBlock := by simp [Value.ownBlock]; exact hgb
  refine ⟨by rw [h6], _, (hp.out.setStack _).setList _, own_farG (own_farG ho.out g 4 _ hgo) g 3 _ hgo, new_own hn.out, ?_⟩; exact fr_step (T := fun i => i = g ∨ some i = v.ownBlock) (fr_step (T := fun i => i = g ∨ some i = v.ownBlock) hf.out (.inl (.inl rfl)) (grown_set _ g 4 _) (fun i e => .inr e)) (.inl (.inl rfl)) (grown_set _ g 3 _) (fun i e => e)
theorem open_at (w : World) (v x y z : Value) : ∀ j u, ([v, x, y, z] : List Value)[j]? = some u → (w.drew.alloc (.cells #[v, x, y, z] 122)).cell? ((⟨w.heap.size, 0, none⟩ : Addr).add j) = some u := by
  intro j u hj; rw [add_plain]; refine (q5 (World.alloc_heap_new w.drew _) j).trans ?_
  match j, hj with
  | 0, hj => exact hj
  | 1, hj => exact hj
  | 2, hj => exact hj
  | 3, hj => exact hj
set_option maxRecDepth 100000 in
set_option maxHeartbeats 4000000 in
theorem begin.calls (g base : Nat) (s : ByteArray) (at_ fault : Int) (av : Option Addr) (nv cv : Nat) (vs : Value) (n : Nat) (ys : List Value) (k : Int) (tx : ByteArray) (A : Option Addr) (m c : Nat) (W : World) (h : Pz W g s at_ fault (.slice av nv cv) vs) (ho : W.ownsRow base 122 4 vs n ys) (hb : base ≤ g) (hn8 : n ≤ 1099511627776) :
    Calls Try.prog 93 #[.pointer (some ⟨g, 0, none⟩), .agg #[.int .i64 k, .string tx, .slice A m c]] W fun e W' => e = .returned (.bool true) ∧ ∃ vs', Pz W' g s at_ fault (.slice none 0 0) vs' ∧ W'.ownsRow base 122 4 vs' (n + 1) (ys ++ [.slice av nv cv, .int .i64 k, .string tx, .slice A m c]) ∧ (∀ b, vs'.ownBlock = some b → vs.ownBlock = some b ∨ W.heap.size ≤ b) ∧ Fr W W' (fun i => i = g ∨ some i = vs.ownBlock) := by
  have hbl : Below W.heap.size W (W.alloc (.cells #[.int .i64 k, .string tx, .slice A m c] 42)) := (Below.refl _ _).alloc (Nat.le_refl _) _; have hn0 := World.alloc_heap_new W (.cells #[.int .i64 k, .string tx, .slice A m c] 42); obtain ⟨W0, hW0⟩ : ∃ W0, W.alloc (.cells #[.int .i64 k, .string tx, .slice A m c] 42) = W0 := ⟨_, rfl⟩; have HW0 := Aside0.mk hW0; rw [hW0] at hbl hn0; have x0 : W0.cell? ⟨W.heap.size, 0, none⟩ = some (.int .i64 k) := (q5 hn0 0).trans rfl; have x1 : W0.cell? ⟨W.heap.size, 1, none⟩ = some (.string tx) := (q5 hn0 1).trans rfl; have x2 : W0.cell? ⟨W.heap.size, 2, none⟩ = some (.slice A m c) := (q5 hn0 2).trans rfl; have hp0 : Pz W0 g s at_ fault (.slice av nv cv) vs := (hbl.block g (Array.getElem?_eq_some_iff.1 h).1).trans h; have HBL := Aside0.mk hbl
  obtain ⟨avs, cvs, hvs⟩ : ∃ avs cvs, vs = .slice avs n cvs := by
    rcases ho.2 with ⟨hv, h0⟩ | ⟨b, cap, cur, hv, _⟩
    · exact ⟨none, 0, by rw [hv, h0]⟩
    · exact ⟨_, _, hv⟩
  subst hvs; have HOA : Aside0 (W0.ownsRow base 122 4 (.slice avs n cvs) n ys) := ⟨own_below4 ho hbl⟩; obtain ⟨p0, p1, p2, p3, p4⟩ := hp0.cells; have pf3 := hp0.fz 3; have pf4 := hp0.fz 4; have HP0 := Aside0.mk hp0; have hgl : g < W0.heap.size := (Array.getElem?_eq_some_iff.1 hp0).1; have hbs : base ≤ W0.heap.size := Nat.le_trans hb (Nat.le_of_lt hgl); clear hbl hW0 hn0 ho h hp0 p0 p1 p2; obtain ⟨i0, hi, hz0, hz1, hz2⟩ := info_parts info_open
  go_enter Try.func93, Try.ntmps93
  go_wp2_with fail
  rw [HW0.out]; clear HW0
  go_region_law ((refine step_append_own2 _ rfl _ _ 70 rfl base 122 i0 (.agg #[.slice none 0 0, .int .i64 0, .string ⟨#[]⟩, .slice none 0 0]) 4 72 Try.underlying70 hi hz0 hz1 hz2 rfl (by decide) _ _ _ rfl (HOA.out.drew.alloc _) ⟨W0.heap.size, 0, none⟩ 1 1 [.slice av nv cv, .int .i64 k, .string tx, .slice A m c] rfl rfl (open_at W0 _ _ _ _) (by simp [Value.oneCell']) (by simp only [maxLen]; omega) (by omega) (by simp; omega) ?_; intro v5 w5 hown5 hgrow5 hnew5; have HF5 := Aside0.mk (show Fr W w5 (fun i => some i = (Value.slice avs n cvs).ownBlock) from ((Fr.mk HBL.out.os HBL.out.tape HBL.out.output HBL.out.size (fun i hi _ => HBL.out.block i hi) : Fr W W0 _).trans (Fr.of_grown (row := none) (grown_da W0 (.cells #[.slice av nv cv, .int .i64 k, .string tx, .slice A m c] 122)) (fun i e => nomatch e))).trans (Fr.of_grown hgrow5 (fun i e => e.symm))); obtain ⟨b5, c5, hv5⟩ : ∃ b5 c5, v5 = .slice (some ⟨b5, 0, none⟩) (n + 1) c5 := (by rcases hown5.2 with ⟨_, h0⟩ | ⟨b, cap, cur, hv, _⟩; (· omega); (· exact ⟨_, _, hv⟩)); subst hv5; have HP5 : Pz w5 g s at_ fault (.slice av nv cv) (.slice avs n cvs) := Pz.grown (Pz.grown (show Pz W0.drew g s at_ fault (.slice av nv cv) (.slice avs n cvs) from HP0.out) (World.grownBy_alloc W0.drew (.cells #[.slice av nv cv, .int .i64 k, .string tx, .slice A m c] 122) none) (by simp)) hgrow5 (own_neG HOA.out (by decide) HP0.out); have hb5g : b5 ≠ g := (fun e => own_neG hown5 (by decide) HP5 (by rw [e]; rfl)); have p54 := HP5.cells.2.2.2.2; have p53 := HP5.cells.2.2.2.1; have pf53 := HP5.fz 3; have pf54 := HP5.fz 4; have HO5 := Aside0.mk hown5; have HG5 := Aside0.mk hgrow5; have HP5' := Aside0.mk HP5; have hgl5 : g < w5.heap.size := (Array.getElem?_eq_some_iff.1 HP5).1; have hgb : g ≠ b5 := hb5g.symm; have HNEW5 : Aside0 (some b5 = (Value.slice avs n cvs).ownBlock ∨ W.heap.size ≤ b5) := ⟨(hnew5 b5 rfl).imp Eq.symm (fun h => Nat.le_trans HBL.out.size (Nat.le_trans (by simp) h))⟩; clear hown5 hgrow5 HP5 hnew5 HG5))
  all_goals
    clear x0 x1 x2 pf3 pf4 p3 p4 p54 pf54
    go_wp2
    go_ret
    (with_reducible refine begin_fin ?_ HP5' HO5 HF5 HNEW5 hgb)
    rfl
end Go.Proofs.Ytdbjjaodkapikaa.TE
end
section
namespace Go.Proofs.Ytdbjjaodkapikaa.TE
open Go.RowKit Go.Shelf Go.Proofs.YtdbjjaodkapikaaW.PrintWords Go.Proofs.YtdbjjaodkapikaaW.PrintLast Go.Proofs.YtdbjjaodkapikaaW.PrintMore Go.Proofs.Ytdbjjaodkapikaa.Evs
set_option linter.unusedVariables false
set_option linter.unusedSimpArgs false
theorem own_drop {w : World} {base n b c : Nat} {e z : Nat} {xs ys : List Value} (h : w.ownsRow base e z (.slice (some ⟨b, 0, none⟩) (n + 1) c) (n + 1) (xs ++ ys)) (hx : xs.length = n * z) : w.ownsRow base e z (.slice (some ⟨b, 0, none⟩) n c) n xs := by
  refine ⟨hx, .inr ?_⟩
  rcases h.2 with ⟨h1, _⟩ | ⟨g, cap, cur, h1, h2, h3, h4, h5, h6, h7⟩
  · simp at h1
  · have hc : c = cap := by injection h1
    have hb : b = g := by injection h1 with e1 _ _; injection e1 with e1; injection e1
    subst hc; subst hb; refine ⟨b, c, cur, rfl, h2, h3, by omega, h5, h6, ?_⟩
    have : (cur.toList.take ((n + 1) * z)).take (n * z) = xs := by rw [h7, ← hx]; simp
    rw [List.take_take] at this
    rwa [Nat.min_eq_left (Nat.mul_le_mul_right _ (by omega))] at this
theorem top_facts {w : World} {base b n c : Nat} {xs : List Value} {v x y z : Value} (h : w.ownsRow base 122 4 (.slice (some ⟨b, 0, none⟩) (n + 1) c) (n + 1) (xs ++ [v, x, y, z])) (hx : xs.length = n * 4) :
    w.cell? ⟨b, n * 4, none⟩ = some v ∧ w.cell? ⟨b, n * 4 + 1, none⟩ = some x ∧ w.cell? ⟨b, n * 4 + 2, none⟩ = some y ∧ w.cell? ⟨b, n * 4 + 3, none⟩ = some z :=
  ⟨(h.cellAt _ (by omega)).trans (by rw [List.getElem?_append_right (by omega), hx, Nat.sub_self]; rfl), (h.cellAt _ (by omega)).trans (by rw [List.getElem?_append_right (by omega), hx, show n * 4 + 1 - n * 4 = 1 by omega]; rfl),
    (h.cellAt _ (by omega)).trans (by rw [List.getElem?_append_right (by omega), hx, show n * 4 + 2 - n * 4 = 2 by omega]; rfl), (h.cellAt _ (by omega)).trans (by rw [List.getElem?_append_right (by omega), hx, show n * 4 + 3 - n * 4 = 3 by omega]; rfl)⟩
theorem own_apart {w : World} {base base' n n' e e' z z' : Nat} {v v' : Value} {xs xs' : List Value} (h : w.ownsRow base e z v n xs) (h' : w.ownsRow base' e' z' v' n' xs') (he : e ≠ e') : ∀ b, v.ownBlock = some b → some b ≠ v'.ownBlock := by
  intro b hb hb'
  rcases h.2 with ⟨rfl, _⟩ | ⟨g, cap, cur, rfl, _, hk, _⟩
  · simp [Value.ownBlock] at hb
  rcases h'.2 with ⟨rfl, _⟩ | ⟨g', cap', cur', rfl, _, hk', _⟩
  · simp [Value.ownBlock] at hb'
  obtain rfl : g = b := by simpa [Value.ownBlock] using hb
  obtain rfl : g = g' := by simpa [Value.ownBlock] using hb'
  rw [hk] at hk'
  injection hk' with h1
  injection h1 with _ h2 _
  exact he h2
theorem term_at (w : World) (x y z : Value) : ∀ j u, ([x, y, z] : List Value)[j]? = some u → (w.drew.alloc (.cells #[x, y, z] 42)).cell? ((⟨w.heap.size, 0, none⟩ : Addr).add j) = some u := by
  intro j u hj; rw [add_plain]; refine (q5 (World.alloc_heap_new w.drew _) j).trans ?_
  match j, hj with
  | 0, hj => exact hj
  | 1, hj => exact hj
  | 2, hj => exact hj
theorem own_grown {w w' : World} {base n e z : Nat} {v : Value} {xs : List Value} {row : Option Nat} (h : w.ownsRow base e z v n xs) (hg : w.grownBy w' row) (hne : ∀ b, v.ownBlock = some b → some b ≠ row) : w'.ownsRow base e z v n xs := by
  obtain ⟨h1, h2⟩ := h; refine ⟨h1, ?_⟩
  rcases h2 with h2 | ⟨b, cap, cur, rfl, hbb, hh, r⟩
  · exact .inl h2
  · exact .inr ⟨b, cap, cur, rfl, hbb, (hg.block b (Array.getElem?_eq_some_iff.1 hh).1 (hne b rfl)).trans hh, r⟩
theorem end_fin {W w5 : World} {g base n bs cs b5 c5 na : Nat} {s : ByteArray} {at_ fault : Int} {va vl v6 : Value} {xs ys zs : List Value} (h6 : v6 = .bool true) (hp : Aside0 (Pz w5 g s at_ fault vl (.slice (some ⟨bs, 0, none⟩) (n + 1) cs))) (ho : Aside0 (w5.ownsRow base 42 3 (.slice (some ⟨b5, 0, none⟩) (na + 1) c5) (na + 1) xs))
    (hk : Aside0 (w5.ownsRow base 122 4 (.slice (some ⟨bs, 0, none⟩) (n + 1) cs) (n + 1) (ys ++ zs))) (hy : Aside0 (ys.length = n * 4))
    (hf : Aside0 (Fr W w5 (fun i => i = g ∨ some i = va.ownBlock))) (hn : Aside0 (some b5 = va.ownBlock ∨ W.heap.size ≤ b5)) (hgb : g ≠ b5) (hgs : g ≠ bs) :
    Ending.returned v6 = .returned (.bool true) ∧ ∃ vl', Pz ((w5.setCell ⟨g, 3, none⟩ (.slice (some ⟨b5, 0, none⟩) (na + 1) c5)).setCell ⟨g, 4, none⟩ (.slice (some ⟨bs, 0, none⟩) n cs)) g s at_ fault vl' (.slice (some ⟨bs, 0, none⟩) n cs) ∧
      ((w5.setCell ⟨g, 3, none⟩ (.slice (some ⟨b5, 0, none⟩) (na + 1) c5)).setCell ⟨g, 4, none⟩ (.slice (some ⟨bs, 0, none⟩) n cs)).ownsRow base 122 4 (.slice (some ⟨bs, 0, none⟩) n cs) n ys ∧
      ((w5.setCell ⟨g, 3, none⟩ (.slice (some ⟨b5, 0, none⟩) (na + 1) c5)).setCell ⟨g, 4, none⟩ (.slice (some ⟨bs, 0, none⟩) n cs)).ownsRow base 42 3 vl' (na + 1) xs ∧ (∀ b, vl'.ownBlock = some b → va.ownBlock = some b ∨ W.heap.size ≤ b) ∧
      Fr W ((w5.setCell ⟨g, 3, none⟩ (.slice (some ⟨b5, 0, none⟩) (na + 1) c5)).setCell ⟨g, 4, none⟩ (.slice (some ⟨bs, 0, none⟩) n cs)) (fun i => i = g ∨ some i = va.ownBlock) := by
  have hgo : some g ≠ (Value.slice (some ⟨b5, 0, none⟩) (na + 1) c5).ownBlock := by simp [Value.ownBlock]; exact hgb
  have hgk : some g ≠ (Value.slice (some ⟨bs, 0, none⟩) n cs).ownBlock := by simp [Value.ownBlock]; exact hgs
  refine ⟨by rw [h6], _, (hp.out.setList _).setStack _, own_farG (own_farG (own_drop hk.out hy.out) g 3 _ hgk) g 4 _ hgk, own_farG (own_farG ho.out g 3 _ hgo) g 4 _ hgo, new_own hn.out, ?_⟩; exact fr_step (T := fun i => i = g ∨ some i = va.ownBlock) (fr_step (T := fun i => i = g ∨ some i = va.ownBlock) hf.out (.inl (.inl rfl)) (grown_set _ g 3 _) (fun i e => e)) (.inl (.inl rfl)) (grown_set _ g 4 _) (fun i e => e)
set_option maxRecDepth 100000 in
set_option maxHeartbeats 4000000 in
theorem end1.calls (g base : Nat) (s : ByteArray) (at_ fault : Int) (av : Option Addr) (nv cv : Nat) (bs cs n : Nat) (ys : List Value) (va : Value) (na : Nat) (xsa : List Value) (k : Int) (tx : ByteArray) (A : Option Addr) (m c : Nat) (W : World)
    (h : Pz W g s at_ fault (.slice av nv cv) (.slice (some ⟨bs, 0, none⟩) (n + 1) cs)) (ho : W.ownsRow base 122 4 (.slice (some ⟨bs, 0, none⟩) (n + 1) cs) (n + 1) (ys ++ [va, .int .i64 k, .string tx, .slice A m c])) (hys : ys.length = n * 4)
    (ha : W.ownsRow base 42 3 va na xsa) (hb : base ≤ g) (hn8 : n ≤ 1099511627776) (hna : na ≤ 1099511627776) (hat : 0 ≤ at_ ∧ at_ ≤ 1099511627776) :
    Calls Try.prog 95 #[.pointer (some ⟨g, 0, none⟩), .int .i64 k] W fun e W' => e = .returned (.bool true) ∧ ∃ vl', Pz W' g s (at_ + 1) fault vl' (.slice (some ⟨bs, 0, none⟩) n cs) ∧ W'.ownsRow base 122 4 (.slice (some ⟨bs, 0, none⟩) n cs) n ys ∧
      W'.ownsRow base 42 3 vl' (na + 1) (xsa ++ [.int .i64 k, .string tx, .slice av nv cv]) ∧ (∀ b, vl'.ownBlock = some b → va.ownBlock = some b ∨ W.heap.size ≤ b) ∧ Fr W W' (fun i => i = g ∨ some i = va.ownBlock) := by
  obtain ⟨p0, p1, p2, p3, p4⟩ := h.cells; have pf1 := h.fz 1; obtain ⟨t0, t1, t2, t3⟩ := top_facts ho hys
  obtain ⟨aa, ca, hva⟩ : ∃ aa ca, va = .slice aa na ca := by
    rcases ha.2 with ⟨hv, h0⟩ | ⟨b, cap, cur, hv, _⟩
    · exact ⟨none, 0, by rw [hv, h0]⟩
    · exact ⟨_, _, hv⟩
  subst hva; have HP := Aside0.mk h; have HO := Aside0.mk ho; have HA := Aside0.mk ha; have hgl : g < W.heap.size := (Array.getElem?_eq_some_iff.1 h).1; have hbl : bs < W.heap.size := (ho.lt bs rfl).2
  have hgb : g ≠ bs := fun e => own_neG ho (by decide) h (by rw [e]; rfl)
  have hw1 : IntKind.i64.wrap (((n + 1 : Nat) : Int) - 1) = (n : Int) := by rw [i64_w]; rw [wrap64_id (by omega) (by omega)]; omega
  have hw2 : IntKind.i64.wrap ((n : Int) + 1 - 1) = (n : Int) := by rw [i64_w]; rw [wrap64_id (by omega) (by omega)]; omega
  have hw3 : IntKind.i64.wrap (n : Int) = (n : Int) := by rw [i64_w]; rw [wrap64_id (by omega) (by omega)]
  have hw4 : IntKind.i64.wrap (at_ + 1) = at_ + 1 := by rw [i64_w]; rw [wrap64_id (by omega) (by omega)]
  have hnn : (n : Int) < (n : Int) + 1 := by omega
  have hnn0 : (0 : Int) ≤ (n : Int) := Int.natCast_nonneg _; have e0 : decide ((n : Int) < 0) = false := decide_eq_false (by omega); have HNA := Aside0.mk hna; have HYS := Aside0.mk hys; clear h ho ha hn8 hna hat hys
  go_enter Try.func95, Try.ntmps95
  go_wp2_with fail
  have hp6 : Pz (W.setCell ⟨g, 1, none⟩ (.int .i64 (at_ + 1))) g s (at_ + 1) fault (.slice av nv cv) (.slice (some ⟨bs, 0, none⟩) (n + 1) cs) := HP.out.setAt _; have hg6 := grown_set W g 1 (.int .i64 (at_ + 1)); have hga : some g ≠ (Value.slice aa na ca).ownBlock := own_neG HA.out (by decide) HP.out; have ho6 := own_farG HO.out g 1 (.int .i64 (at_ + 1)) (own_neG HO.out (by decide) HP.out); have ha6 := own_farG HA.out g 1 (.int .i64 (at_ + 1)) hga
  have hs6 : (W.setCell ⟨g, 1, none⟩ (.int .i64 (at_ + 1))).heap.size = W.heap.size := by simp [World.setCell]
  obtain ⟨W5, hW5⟩ : ∃ W5, W.setCell ⟨g, 1, none⟩ (.int .i64 (at_ + 1)) = W5 := ⟨_, rfl⟩; rw [hW5] at hp6 hg6 ho6 ha6 hs6 ⊢; have hn6 := World.alloc_heap_new W5 (.cells #[.slice aa na ca, .int .i64 k, .string tx, .slice av nv cv] 122); have hb6 : Below W5.heap.size W5 (W5.alloc (.cells #[.slice aa na ca, .int .i64 k, .string tx, .slice av nv cv] 122)) := (Below.refl _ _).alloc (Nat.le_refl _) _; obtain ⟨W6, hW6⟩ : ∃ W6, W5.alloc (.cells #[.slice aa na ca, .int .i64 k, .string tx, .slice av nv cv] 122) = W6 := ⟨_, rfl⟩; rw [hW6] at hn6 hb6 ⊢; rw [hs6] at hn6; have hF6 : Fr W W6 (fun i => i = g ∨ some i = (Value.slice aa na ca).ownBlock) := (Fr.of_grown hg6 (fun i e => by cases e; exact .inl rfl)).trans (Fr.mk hb6.os hb6.tape hb6.output hb6.size (fun i hi _ => hb6.block i hi)); have HP6 : Aside0 (Pz W6 g s (at_ + 1) fault (.slice av nv cv) (.slice (some ⟨bs, 0, none⟩) (n + 1) cs)) := ⟨(hb6.block g (Array.getElem?_eq_some_iff.1 hp6).1).trans hp6⟩; have HO6 := Aside0.mk (own_below4 ho6 hb6); have HA6 := Aside0.mk (own_below4 ha6 hb6); have HF6 := Aside0.mk hF6; have y0 : W6.cell? ⟨W.heap.size, 0, none⟩ = some (.slice aa na ca) := (q5 hn6 0).trans rfl; have y1 : W6.cell? ⟨W.heap.size, 1, none⟩ = some (.int .i64 k) := (q5 hn6 1).trans rfl; have y2 : W6.cell? ⟨W.heap.size, 2, none⟩ = some (.string tx) := (q5 hn6 2).trans rfl; have y3 : W6.cell? ⟨W.heap.size, 3, none⟩ = some (.slice av nv cv) := (q5 hn6 3).trans rfl; have z4 := HP6.out.cells.2.2.2.2; have zf3 := HP6.out.fz 3; have zf4 := HP6.out.fz 4; have hgl6 : g < W6.heap.size := (Array.getElem?_eq_some_iff.1 HP6.out).1; have hwl6 : W.heap.size < W6.heap.size := (Array.getElem?_eq_some_iff.1 hn6).1; have hbs6 : base ≤ W6.heap.size := Nat.le_trans hb (Nat.le_of_lt hgl6); obtain ⟨i0, hi, hz0, hz1, hz2⟩ := info_parts info_term
  have hcs : n ≤ cs := by
    rcases HO.out.2 with ⟨h1, _⟩ | ⟨_, cap, _, h1, _, _, h4, _⟩
    · simp at h1
    · have : cs = cap := by injection h1
      omega
  have hcsi : (n : Int) ≤ (cs : Int) := by omega
  clear hp6 hg6 ho6 ha6 hs6 hW5 hn6 hb6 hW6 hF6 p0 p1 p2 p3 p4 t0 t1 t2 t3 pf1 hw1 hw2 hw4 e0
  go_region_law ((refine step_append_own2 _ rfl _ _ 22 rfl base 42 i0 (.agg #[.int .i64 0, .string ⟨#[]⟩, .slice none 0 0]) 3 48 Try.underlying22 hi hz0 hz1 hz2 rfl (by decide) _ _ _ rfl (HA6.out.drew.alloc _) ⟨W6.heap.size, 0, none⟩ 1 1 [.int .i64 k, .string tx, .slice av nv cv] rfl rfl (term_at W6 _ _ _) (by simp [Value.oneCell']) (by have := HNA.out; simp only [maxLen]; omega) (by have := HNA.out; omega) (by simp; omega) ?_; intro v5 w5 hown5 hgrow5 hnew5; have HF5 := Aside0.mk (show Fr W w5 (fun i => i = g ∨ some i = (Value.slice aa na ca).ownBlock) from (HF6.out.trans (Fr.of_grown (row := none) (grown_da W6 (.cells #[.int .i64 k, .string tx, .slice av nv cv] 42)) (fun i e => nomatch e))).trans (Fr.of_grown hgrow5 (fun i e => .inr e.symm))); obtain ⟨b5, c5, hv5⟩ : ∃ b5 c5, v5 = .slice (some ⟨b5, 0, none⟩) (na + 1) c5 := (by rcases hown5.2 with ⟨_, h0⟩ | ⟨b, cap, cur, hv, _⟩; (· omega); (· exact ⟨_, _, hv⟩)); subst hv5; have HP5 : Pz w5 g s (at_ + 1) fault (.slice av nv cv) (.slice (some ⟨bs, 0, none⟩) (n + 1) cs) := Pz.grown (Pz.grown (show Pz W6.drew g s (at_ + 1) fault (.slice av nv cv) (.slice (some ⟨bs, 0, none⟩) (n + 1) cs) from HP6.out) (World.grownBy_alloc W6.drew (.cells #[.int .i64 k, .string tx, .slice av nv cv] 42) none) (by simp)) hgrow5 (own_neG HA6.out (by decide) HP6.out); have hb5g : b5 ≠ g := (fun e => own_neG hown5 (by decide) HP5 (by rw [e]; rfl)); have p54 := HP5.cells.2.2.2.2; have p53 := HP5.cells.2.2.2.1; have pf53 := HP5.fz 3; have pf54 := HP5.fz 4; have HO5 := Aside0.mk hown5; have HSK5 : Aside0 (w5.ownsRow base 122 4 (.slice (some ⟨bs, 0, none⟩) (n + 1) cs) (n + 1) (ys ++ [.slice aa na ca, .int .i64 k, .string tx, .slice A m c])) := ⟨own_grown (own_grown (show W6.drew.ownsRow base 122 4 (.slice (some ⟨bs, 0, none⟩) (n + 1) cs) (n + 1) (ys ++ [.slice aa na ca, .int .i64 k, .string tx, .slice A m c]) from HO6.out) (World.grownBy_alloc W6.drew (.cells #[.int .i64 k, .string tx, .slice av nv cv] 42) none) (by simp)) hgrow5 (own_apart HO6.out HA6.out (by decide))⟩; have HP5' := Aside0.mk HP5; have hgl5 : g < w5.heap.size := (Array.getElem?_eq_some_iff.1 HP5).1; have hgb5 : g ≠ b5 := hb5g.symm; have HNEW5 : Aside0 (some b5 = (Value.slice aa na ca).ownBlock ∨ W.heap.size ≤ b5) := ⟨(hnew5 b5 rfl).imp Eq.symm (fun h => Nat.le_trans HF6.out.size (Nat.le_trans (by simp) h))⟩; clear hown5 hgrow5 hnew5 HP5))
  all_goals
    clear p53 p54 pf53 pf54 z4 zf3 zf4
    go_wp2
    go_ret
    (with_reducible refine end_fin ?_ HP5' HO5 HSK5 HYS HF5 HNEW5 hgb5 hgb)
    rfl
end Go.Proofs.Ytdbjjaodkapikaa.TE
end
