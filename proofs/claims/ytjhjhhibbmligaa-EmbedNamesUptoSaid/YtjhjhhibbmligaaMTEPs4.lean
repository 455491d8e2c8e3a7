/- The parser: call at a general state. -/
import Derived.Test.YtjhjhhibbmligaaMTEPs3
namespace Go.Proofs.Ytjhjhhibbmligaa.TE
open Go.RowKit Go.Shelf Go.Proofs.YtjhjhhibbmligaaW.PrintWords Go.Proofs.YtjhjhhibbmligaaW.PrintLast Go.Proofs.YtjhjhhibbmligaaW.PrintMore Go.Proofs.Ytjhjhhibbmligaa.Evs
set_option linter.unusedVariables false
set_option linter.unusedSimpArgs false
theorem PS.newer {w0 W W' : World} {g : Nat} {s : ByteArray} {a fault : Int} {l : List Tm} {st : List Op} (h : PS w0 W g s a fault l st) (hb : Below W.heap.size W W') : PS w0 W' g s a fault l st := by
  have hg : W.grownBy W' (some g) := ⟨hb.os, hb.tape, hb.output, hb.size, fun k hk _ => hb.block k hk⟩; exact h.field hg (fun _ _ hp => Pz.newer hp hb)
theorem PS.setAt {w0 W : World} {g : Nat} {s : ByteArray} {a fault : Int} {l : List Tm} {st : List Op} (h : PS w0 W g s a fault l st) (x : Int) : PS w0 (W.setCell ⟨g, 1, none⟩ (.int .i64 x)) g s x fault l st :=
  h.field (grown_set W g 1 _) (fun _ _ hp => hp.setAt x)
theorem PS.cells {w0 W : World} {g : Nat} {s : ByteArray} {a fault : Int} {l : List Tm} {st : List Op} (h : PS w0 W g s a fault l st) : W.cell? ⟨g, 0, none⟩ = some (.string s) ∧ W.cell? ⟨g, 1, none⟩ = some (.int .i64 a) ∧ W.cell? ⟨g, 2, none⟩ = some (.int .i64 fault) ∧ W.frozen? ⟨g, 1, none⟩ = false := by
  obtain ⟨vl, vs, avs, h1, h2, h3, h4⟩ := h.mem; exact ⟨h2.cells.1, h2.cells.2.1, h2.cells.2.2.1, h2.fz 1⟩
def clsAt (m : Int) (s : ByteArray) (a : Nat) : Bool := if h : a < s.size then clsB m (s[a]'h) else false
def callS (s : ByteArray) (a : Nat) (fault : Int) (l : List Tm) (st : List Op) : Bool × Nat × Int × List Tm × List Op :=
  if clsAt 1 s (endF 8 s (a + 1)) = true then
    (if rightS (⟨8, s.extract (endF 8 s (a + 1)) (endF 4 s (endF 8 s (a + 1))), []⟩ : Tm) = true then
      (if onB s (endF 4 s (endF 8 s (a + 1))) = true then (false, endF 4 s (endF 8 s (a + 1)), failF fault (endF 4 s (endF 8 s (a + 1))), l, st)
       else (true, endF 4 s (endF 8 s (a + 1)), fault, [], ⟨l, 8, s.extract (endF 8 s (a + 1)) (endF 4 s (endF 8 s (a + 1)))⟩ :: st))
     else (false, endF 4 s (endF 8 s (a + 1)), failF fault (endF 8 s (a + 1)), l, st))
  else (false, endF 8 s (a + 1), failF fault (endF 8 s (a + 1)), l, st)
set_option maxRecDepth 100000 in
set_option maxHeartbeats 4000000 in
theorem PS.call {w0 W : World} {g a : Nat} {s : ByteArray} {fault : Int} {l : List Tm} {st : List Op} (h : PS w0 W g s a fault l st) (hs : s.size ≤ 1048576) (ha : a < s.size) (hst : st.length ≤ 1099511627776) :
    Calls Try.prog 163 #[.pointer (some ⟨g, 0, none⟩)] W fun e W' => e = .returned (.bool (callS s a fault l st).1) ∧ PS w0 W' g s (callS s a fault l st).2.1 (callS s a fault l st).2.2.1 (callS s a fault l st).2.2.2.1 (callS s a fault l st).2.2.2.2 := by
  have hs' : s.size ≤ 1099511627776 := by omega
  obtain ⟨q0, q1, q2, q3⟩ := h.cells
  have hp1 : PS w0 (W.setCell ⟨g, 1, none⟩ (.int .i64 ((a : Int) + 1))) g s ((a + 1 : Nat) : Int) fault l st := by have := h.setAt ((a : Int) + 1); simpa using this
  obtain ⟨W1, hW1⟩ : ∃ W1, W.setCell ⟨g, 1, none⟩ (.int .i64 ((a : Int) + 1)) = W1 := ⟨_, rfl⟩; rw [hW1] at hp1; have HW1 := Aside0.mk hW1
  have hw4 : IntKind.i64.wrap ((a : Int) + 1) = (a : Int) + 1 := by rw [i64_w]; rw [wrap64_id (by omega) (by omega)]
  obtain ⟨a1, h1⟩ : ∃ a1, a1 = endF 8 s (a + 1) := ⟨_, rfl⟩; obtain ⟨a2, h2⟩ : ∃ a2, a2 = endF 4 s a1 := ⟨_, rfl⟩
  have hle1 : a1 ≤ s.size := by rw [h1]; exact endF_le 8 s (a + 1) (by omega)
  obtain ⟨tx, htx⟩ : ∃ tx, tx = s.extract a1 a2 := ⟨_, rfl⟩; obtain ⟨cl, hcl⟩ : ∃ cl, cl = clsAt 1 s a1 := ⟨_, rfl⟩; obtain ⟨ri, hri⟩ : ∃ ri, ri = rightS (⟨8, tx, []⟩ : Tm) := ⟨_, rfl⟩; obtain ⟨on, hon⟩ : ∃ on, on = onB s a2 := ⟨_, rfl⟩
  have hdef : callS s a fault l st = if cl = true then (if ri = true then (if on = true then (false, a2, failF fault a2, l, st) else (true, a2, fault, [], ⟨l, 8, tx⟩ :: st)) else (false, a2, failF fault a1, l, st)) else (false, a1, failF fault a1, l, st) := by
    unfold callS; rw [← h1, ← h2, ← htx, ← hcl, ← hri, ← hon]
  have htl : tx.size ≤ 1099511627776 := by
    have h := size_len (s.extract a1 a2); rw [extract_list, List.length_take, List.length_drop, ← size_len] at h; rw [htx]; omega
  obtain ⟨kk, hkk⟩ := (right_ev (x := (⟨8, tx, []⟩ : Tm)) htl).get; rw [← hri] at hkk; have HDEF := Aside0.mk hdef; have HP1 := Aside0.mk hp1; have HS := Aside0.mk hs'; have HA := Aside0.mk ha; have HST := Aside0.mk hst; have H1 := Aside0.mk h1; have H2 := Aside0.mk h2; have HTX := Aside0.mk htx; have HR := Aside0.mk hkk; have HON := Aside0.mk hon; have HLE := Aside0.mk hle1; have hgl := h.lt; clear h hs hs' ha hst hp1 hW1 h1 h2 htx htl hkk hri hdef hgl q0 q2
  go_enter Try.func163, Try.ntmps163
  go_wp2_with fail
  rw [HW1.out]; clear q1 q3 hw4; refine (HP1.out.longest 8 HS.out HA.out).mono ?_; rintro e w1 ⟨rfl, hp, hg⟩; rw [← H1.out] at hp; obtain ⟨p0, p1, _, _⟩ := hp.cells; have HP2 := Aside0.mk hp; clear hp hg; have ha0 : (0 : Int) ≤ (a1 : Int) := Int.natCast_nonneg _
  by_cases hl : a1 < s.size
  · have ha1 : (a1 : Int) < (s.size : Int) := by omega
    have hne : ((a1 : Int) == (s.size : Int)) = false := by simp; omega
    obtain ⟨b, hb1⟩ : ∃ b, b = s[a1]'hl := ⟨_, rfl⟩
    have hbt : ((s[a1]'hl).toNat : Int) = (b.toNat : Int) := by rw [hb1]
    have hcall := fun w => is_calls b 1 w
    rw [show clsB 1 b = cl by rw [hcl, clsAt, dif_pos hl, hb1]] at hcall; have HCALL := Aside0.mk hcall; clear hcall hcl
    cases cl with
    | false =>
      have HD : Aside0 (callS s a fault l st = (false, a1, failF fault a1, l, st)) := ⟨by rw [HDEF.out]; simp⟩
      go_wp2_with fail
      go_quiet (first | (go_at_call 156; exact Calls.quiet_of (HCALL.out _)))
      clear p0 p1
      go_wp2_with fail
      refine (HP2.out.drewN.fail (a1 : Int)).mono ?_; rintro e w2 ⟨rfl, hp, hg⟩; have HP3 := Aside0.mk hp; clear hp hg
      go_wp2_with fail
      go_ret; rw [HD.out]; exact ⟨rfl, HP3.out⟩
    | true =>
      go_wp2_with fail
      go_quiet (first | (go_at_call 156; exact Calls.quiet_of (HCALL.out _)))
      clear p0 p1
      go_wp2_with fail
      refine (HP2.out.drewN.longest 4 HS.out HLE.out).mono ?_; rintro e w2 ⟨rfl, hp, hg⟩; rw [← H2.out, ← HTX.out]; rw [← H2.out] at hp; have HP3 := Aside0.mk hp; clear hp hg
      go_wp2_with fail
      have hn3 := World.alloc_heap_new w2 (.cells #[.int .i64 8, .string tx, .slice none 0 0] 42); have hb3 : Below w2.heap.size w2 (w2.alloc (.cells #[.int .i64 8, .string tx, .slice none 0 0] 42)) := (Below.refl _ _).alloc (Nat.le_refl _) _; obtain ⟨W3, hW3⟩ : ∃ W3, w2.alloc (.cells #[.int .i64 8, .string tx, .slice none 0 0] 42) = W3 := ⟨_, rfl⟩; rw [hW3] at hn3 hb3 ⊢; clear hW3; refine (term_right.calls kk 8 tx none 0 [] ri W3 (Kd.C_nil k42 W3) (Nat.le_refl _) HR.out).mono ?_; rintro e w3 ⟨rfl, hb4⟩; have hx3 := (hb4.block _ (Array.getElem?_eq_some_iff.1 hn3).1).trans hn3; have x0 : w3.cell? ⟨w2.heap.size, 0, none⟩ = some (.int .i64 8) := (q4 hx3 0).trans rfl; have x1 : w3.cell? ⟨w2.heap.size, 1, none⟩ = some (.string tx) := (q4 hx3 1).trans rfl; have x2 : w3.cell? ⟨w2.heap.size, 2, none⟩ = some (.slice none 0 0) := (q4 hx3 2).trans rfl; have HP4 := Aside0.mk ((HP3.out.newer hb3).newer hb4); have HX3 := Aside0.mk hx3; clear hn3 hb3 hb4 hx3
      cases ri with
      | false =>
        have HD : Aside0 (callS s a fault l st = (false, a2, failF fault a1, l, st)) := ⟨by rw [HDEF.out]; simp⟩
        go_wp2_with fail
        refine (HP4.out.fail (a1 : Int)).mono ?_; rintro e w4 ⟨rfl, hp, hg⟩; have HP5 := Aside0.mk hp; clear hp hg
        go_wp2_with fail
        go_ret; rw [HD.out]; exact ⟨rfl, HP5.out⟩
      | true =>
        go_wp2_with fail
        clear x0 x1 x2; have hap := HP4.out.apart HS.out; rw [← HON.out] at hap; refine hap.mono ?_; clear hap; rintro e w4 ⟨rfl, hp, hg⟩
        have hx4 := grown_blk hg HX3.out (fun e => by
          have h1 := HP3.out.lt
          omega)
        have x0 : w4.cell? ⟨w2.heap.size, 0, none⟩ = some (.int .i64 8) := (q4 hx4 0).trans rfl; have x1 : w4.cell? ⟨w2.heap.size, 1, none⟩ = some (.string tx) := (q4 hx4 1).trans rfl; have x2 : w4.cell? ⟨w2.heap.size, 2, none⟩ = some (.slice none 0 0) := (q4 hx4 2).trans rfl
        cases on with
        | true =>
          have HD : Aside0 (callS s a fault l st = (false, a2, failF fault a2, l, st)) := ⟨by rw [HDEF.out]; simp⟩; have HP5 : Aside0 (PS w0 w4 g s a2 (failF fault a2) l st) := ⟨by simpa using hp⟩; clear hp hg hx4
          go_wp2_with fail
          go_ret; rw [HD.out]; exact ⟨rfl, HP5.out⟩
        | false =>
          have HD : Aside0 (callS s a fault l st = (true, a2, fault, [], ⟨l, 8, tx⟩ :: st)) := ⟨by rw [HDEF.out]; simp⟩; have HP5 : Aside0 (PS w0 w4 g s a2 fault l st) := ⟨by simpa using hp⟩; clear hp hg hx4
          go_wp2_with fail
          refine (HP5.out.begin 8 tx HST.out).mono ?_; rintro e w5 ⟨rfl, hp⟩; have HP6 := Aside0.mk hp; clear hp
          go_wp2_with fail
          go_ret; rw [HD.out]; exact ⟨rfl, HP6.out⟩
  · have hle := HLE.out
    have hae : a1 = s.size := by omega
    have hne : ((a1 : Int) == (s.size : Int)) = true := by simp; omega
    have HD : Aside0 (callS s a fault l st = (false, a1, failF fault a1, l, st)) := ⟨by rw [HDEF.out, hcl, clsAt, dif_neg hl, if_neg (by decide)]⟩; clear hcl hle hae
    go_wp2_with fail
    go_quiet (fail)
    clear p0 p1
    go_wp2_with fail
    refine (HP2.out.drewN.fail (a1 : Int)).mono ?_; rintro e w2 ⟨rfl, hp, hg⟩; have HP3 := Aside0.mk hp; clear hp hg
    go_wp2_with fail
    go_ret; rw [HD.out]; exact ⟨rfl, HP3.out⟩
end Go.Proofs.Ytjhjhhibbmligaa.TE
