/- The parser: item at a word, in general. -/
import Derived.Test.YtjhjhhibbmligaaMTEPi2
namespace Go.Proofs.Ytjhjhhibbmligaa.TE
open Go.RowKit Go.Shelf Go.Proofs.YtjhjhhibbmligaaW.PrintWords Go.Proofs.YtjhjhhibbmligaaW.PrintLast Go.Proofs.YtjhjhhibbmligaaW.PrintMore Go.Proofs.Ytjhjhhibbmligaa.Evs
set_option linter.unusedVariables false
set_option linter.unusedSimpArgs false
theorem idx_cases (b : UInt8) : Lib.indexByte [115, 116, 101] b = -1 ∨ ∃ i : Nat, i < 3 ∧ Lib.indexByte [115, 116, 101] b = (i : Int) := by
  have : ∀ b : UInt8, Lib.indexByte [115, 116, 101] b = -1 ∨ Lib.indexByte [115, 116, 101] b = 0 ∨ Lib.indexByte [115, 116, 101] b = 1 ∨ Lib.indexByte [115, 116, 101] b = 2 := by
    intro b
    revert b
    refine byte_all _ ?_
    decide +kernel
  rcases this b with h | h | h | h
  · exact .inl h
  · exact .inr ⟨0, by decide, by simpa using h⟩
  · exact .inr ⟨1, by decide, by simpa using h⟩
  · exact .inr ⟨2, by decide, by simpa using h⟩
theorem idx_letter (b : UInt8) : clsB 1 b = false → Lib.indexByte [115, 116, 101] b = -1 := by
  revert b
  refine byte_all _ ?_
  decide +kernel
theorem letter_marks (b : UInt8) : clsB 1 b = true → b.toNat ≠ 39 ∧ b.toNat ≠ 34 := by
  revert b
  refine byte_all _ ?_
  decide +kernel
def varAt (s : ByteArray) (a : Nat) : Bool := if h : a + 1 < s.size then decide (0 ≤ Lib.indexByte [115, 116, 101] (s[a]'(by omega))) && decide ((s[a + 1]'h).toNat = 46) else false
set_option maxRecDepth 100000 in
set_option maxHeartbeats 4000000 in
theorem PS.item_word {w0 W : World} {g a : Nat} {s : ByteArray} {fault : Int} {l : List Tm} {st : List Op} (h : PS w0 W g s a fault l st) (hs : s.size ≤ 1048576) (hn8 : l.length ≤ 1099511627776) (b : UInt8)
    (ha : a < s.size) (hc : s[a]'ha = b) (hv : varAt s a = false) (hcl : clsB 1 b = true) (R : Bool × Int × List Tm) (hR : R = tokS s 2 (s.extract a (endF 4 s a)) a (endF 4 s a) fault l) :
    Calls Try.prog 120 #[.pointer (some ⟨g, 0, none⟩)] W fun e W' => e = .returned (.bool R.1) ∧ PS w0 W' g s (endF 4 s a) R.2.1 R.2.2 st := by
  have hbl : Below W.heap.size W (W.alloc (.cells #[.pointer (some ⟨g, 0, none⟩)] 139)) := (Below.refl _ _).alloc (Nat.le_refl _) _; have hn0 := World.alloc_heap_new W (.cells #[.pointer (some ⟨g, 0, none⟩)] 139); obtain ⟨W0, hW0⟩ : ∃ W0, W.alloc (.cells #[.pointer (some ⟨g, 0, none⟩)] 139) = W0 := ⟨_, rfl⟩; have HW0 := Aside0.mk hW0; rw [hW0] at hbl hn0; have x0 : W0.cell? ⟨W.heap.size, 0, none⟩ = some (.pointer (some ⟨g, 0, none⟩)) := (q4 hn0 0).trans rfl; have hp0 : PM W.heap.size w0 W0 g s a fault l st := h.pm.newer hbl; obtain ⟨p0, p1, p2, pf1⟩ := hp0.cells; have hgl : g < W.heap.size := h.lt; have ha0 : (0 : Int) ≤ (a : Int) := Int.natCast_nonneg _
  have ha1 : (a : Int) < (s.size : Int) := by omega
  have hbt : ((s[a]'ha).toNat : Int) = (b.toNat : Int) := by rw [hc]
  have hw4 : IntKind.i64.wrap ((a : Int) + 1) = (a : Int) + 1 := by rw [i64_w]; rw [wrap64_id (by omega) (by omega)]
  have h39 := (letter_marks b hcl).1; have h34 := (letter_marks b hcl).2
  have e39 : ((b.toNat : Int) == 39) = false := by simp; omega
  have e34 : ((b.toNat : Int) == 34) = false := by simp; omega
  obtain ⟨a2, h2⟩ : ∃ a2, a2 = endF 4 s a := ⟨_, rfl⟩; obtain ⟨tx, htx⟩ : ∃ tx, tx = s.extract a a2 := ⟨_, rfl⟩; rw [← h2, ← htx] at hR; rw [← h2]
  have htl : tx.size ≤ 1099511627776 := by
    have h := size_len (s.extract a a2); rw [extract_list, List.length_take, List.length_drop, ← size_len] at h; rw [htx]; omega
  obtain ⟨r, hri⟩ : ∃ r, r = rightS (⟨2, tx, []⟩ : Tm) := ⟨_, rfl⟩; obtain ⟨on, hon⟩ : ∃ on, on = onB s a2 := ⟨_, rfl⟩; obtain ⟨kk, hkk⟩ := (right_ev (x := (⟨2, tx, []⟩ : Tm)) htl).get; rw [← hri] at hkk; unfold tokS at hR; rw [← hri, ← hon] at hR; have HRR := Aside0.mk hR
  have hs' : s.size ≤ 1099511627776 := by omega
  have hle2 : a ≤ s.size := by omega
  have his := is_at b.toNat b rfl 1 true hcl; have HIS := Aside0.mk his; have HLE := Aside0.mk hle2; have HP0 := Aside0.mk hp0; have HBL := Aside0.mk hbl; have HN0 := Aside0.mk hn0; have HN8 := Aside0.mk hn8; have HS := Aside0.mk hs'; have H2 := Aside0.mk h2; have HTX := Aside0.mk htx; have HR := Aside0.mk hkk; have HON := Aside0.mk hon; have HA := Aside0.mk ha; have HC := Aside0.mk hc; clear h hn8 hp0 hbl hW0 hn0 hs hs' h2 htx hkk hon h39 h34 hR hri htl hle2 hcl his
  rcases idx_cases b with hidx | ⟨i, hi3, hidx⟩
  · have hidx' := index_at (b.toNat : Int) (-1) (by simpa using hidx); have HIDX := Aside0.mk hidx'; clear hidx hidx' hv hc
    go_enter Try.func120, Try.ntmps120
    go_wp2_with fail
    rw [HW0.out]
    go_quiet (fail)
    generalize nq = nq1
    go_wp2_with fail
    go_quiet (first | (go_at_call 160; exact quiet_of2 (HIDX.out _)))
    go_upto_region 14 with (first
      | (go_at_call 156; refine (HIS.out _).mono ?_; rintro e w' ⟨rfl, nd, rfl⟩)
      | fail)
    have hp1 : PM W.heap.size w0 (W0.drewN (nq1 + nq + nd)) g s (a : Int) fault l st := HP0.out.drewN; have hx1 : (W0.drewN (nq1 + nq + nd)).heap[W.heap.size]? = some (.cells #[.pointer (some ⟨g, 0, none⟩)] 139 (0, 0)) := HN0.out; obtain ⟨W1, hW1⟩ : ∃ W1, W0.drewN (nq1 + nq + nd) = W1 := ⟨_, rfl⟩; rw [hW1] at hp1 hx1 ⊢; have HP1 := Aside0.mk hp1; have HX1 := Aside0.mk hx1; have z0 : W1.cell? ⟨W.heap.size, 0, none⟩ = some (.pointer (some ⟨g, 0, none⟩)) := (q4 hx1 0).trans rfl; have hsz1 : W.heap.size < W1.heap.size := (Array.getElem?_eq_some_iff.1 hx1).1; clear hW1 hp1 hx1 x0 p0 p1 p2 pf1 hw4 e39 e34
    cases r with
    | false =>
      refine wp_region_held_drew (S := fun W' => W'.cell? ⟨W.heap.size, 0, none⟩ = some (.pointer (some ⟨g, 0, none⟩))) (by kernel_rfl) ?_ (fun hHeld => ?_)
      · exact z0
      refine wpAnyH_take (i := 0) (oi := { dst := some 114, op := Go.Op.load 139 (Go.Operand.tmp 1), type := 139, pos := "term.go:515", after := #[], guard := none }) (v := ?_) rfl (by kernel_rfl) (by kernel_rfl) (by kernel_rfl) (fun _ _ _ h => h) (Or.inl ⟨by rfl, ?_⟩) (by assumption) ?_; rotate_left
      · (intro w hSw; (try dsimp only at hSw); go_simp; first | done | with_reducible rfl)
      (try simp only [Act.put, List.setIfInBounds_toArray, List.set_cons_zero, List.set_cons_succ])
      refine wpAnyH_take (i := 1) (oi := { dst := some 115, op := Go.Op.load 139 (Go.Operand.tmp 1), type := 139, pos := "term.go:515", after := #[], guard := none }) (v := ?_) rfl (by kernel_rfl) (by kernel_rfl) (by kernel_rfl) (fun _ _ _ h => h) (Or.inl ⟨by rfl, ?_⟩) (by assumption) ?_; rotate_left
      · (intro w hSw; (try dsimp only at hSw); go_simp; first | done | with_reducible rfl)
      (try simp only [Act.put, List.setIfInBounds_toArray, List.set_cons_zero, List.set_cons_succ])
      refine wpAnyH_take (i := 4) (oi := { dst := some 118, op := Go.Op.move (Go.Operand.tmp 3), type := 3, pos := "term.go:515", after := #[], guard := none }) (v := ?_) rfl (by kernel_rfl) (by kernel_rfl) (by kernel_rfl) (fun _ _ _ h => h) (Or.inl ⟨by rfl, ?_⟩) (by assumption) ?_; rotate_left
      · (intro w hSw; (try dsimp only at hSw); go_simp; first | done | with_reducible rfl)
      (try simp only [Act.put, List.setIfInBounds_toArray, List.set_cons_zero, List.set_cons_succ])
      refine wpAnyH_ready (rs := [2]) (by kernel_rfl) (by simp) ?_; refine AllReadyH.cons (o := { dst := some 116, op := Go.Op.call { callee := Go.Callee.value (Go.Operand.func 119), args := #[Go.Operand.tmp 115, Go.Operand.const (Go.Value.int Go.IntKind.u8 4)], argTypes := #[139, 5] }, type := 9, pos := "term.go:515", after := #[{ on := 1, ground := Go.Ground.data }], guard := none }) rfl (fun K hK => ?_) AllReadyH.nil; go_simp
      (go_at_call 119; refine (HP1.out.drewN.longest 4 HS.out HLE.out).mono ?_; rintro e w2 ⟨rfl, hp, hg⟩; rw [← H2.out] at hp; have HP2 := Aside0.mk hp; have HX2 := Aside0.mk ((hg.block _ hsz1 (fun e => by injection e with e; omega)).trans HX1.out); have HZ2 := Aside0.mk (show w2.cell? ⟨W.heap.size, 0, none⟩ = some (.pointer (some ⟨g, 0, none⟩)) from (q4 HX2.out 0).trans rfl); clear hp hg; rw [← H2.out, ← HTX.out])
      try go_wp2_with fail
      refine hK.out _ _ ?_ (fun hHeld => ?_)
      · (try dsimp only); (go_split_ands; first | exact z0 | exact HZ2.out | exact HZ3.out | (refine ⟨?_, ?_, ?_⟩ <;> assumption) | assumption)
      clear hK K
      (try simp only [Act.put, List.setIfInBounds_toArray, List.set_cons_zero, List.set_cons_succ])
      refine wpAnyH_take (i := 3) (oi := { dst := some 117, op := Go.Op.build 42 #[(0, Go.Operand.const (Go.Value.int Go.IntKind.i64 2)), (1, Go.Operand.tmp 116)], type := 42, pos := "term.go:515", after := #[{ on := 2, ground := Go.Ground.data }], guard := none }) (v := ?_) rfl (by kernel_rfl) (by kernel_rfl) (by kernel_rfl) (fun _ _ _ h => h) (Or.inl ⟨by rfl, ?_⟩) (by assumption) ?_; rotate_left
      · (intro w hSw; (try dsimp only at hSw); go_simp; first | done | with_reducible rfl)
      (try simp only [Act.put, List.setIfInBounds_toArray, List.set_cons_zero, List.set_cons_succ])
      refine wpAnyH_ready (rs := [5]) (by kernel_rfl) (by simp) ?_; refine AllReadyH.cons (o := { dst := some 119, op := Go.Op.call { callee := Go.Callee.value (Go.Operand.func 159), args := #[Go.Operand.tmp 114, Go.Operand.tmp 117, Go.Operand.tmp 118], argTypes := #[139, 42, 3] }, type := 4, pos := "term.go:515", after := #[{ on := 0, ground := Go.Ground.data }, { on := 3, ground := Go.Ground.data }, { on := 4, ground := Go.Ground.data }, { on := 2, ground := Go.Ground.chain }], guard := none }) rfl (fun K hK => ?_) AllReadyH.nil; go_simp
      (go_at_call 159; refine (HP2.out.add 2 tx a kk false HR.out HN8.out).mono ?_; rintro e w3 ⟨rfl, hp, hkp⟩; have HP3 := Aside0.mk hp; have HX3 := Aside0.mk ((hkp _ (Nat.le_refl _) (Array.getElem?_eq_some_iff.1 HX2.out).1).trans HX2.out); have HZ3 := Aside0.mk (show w3.cell? ⟨W.heap.size, 0, none⟩ = some (.pointer (some ⟨g, 0, none⟩)) from (q4 HX3.out 0).trans rfl); clear hp hkp)
      try go_wp2_with fail
      refine hK.out _ _ ?_ (fun hHeld => ?_)
      · (try dsimp only); (go_split_ands; first | exact z0 | exact HZ2.out | exact HZ3.out | (refine ⟨?_, ?_, ?_⟩ <;> assumption) | assumption)
      clear hK K
      (try simp only [Act.put, List.setIfInBounds_toArray, List.set_cons_zero, List.set_cons_succ])
      refine wpAnyH_take (i := 6) (oi := { dst := some 120, op := Go.Op.move (Go.Operand.tmp 119), type := 4, pos := "term.go:515", after := #[{ on := 5, ground := Go.Ground.data }, { on := 5, ground := Go.Ground.chain }], guard := none }) (v := ?_) rfl (by kernel_rfl) (by kernel_rfl) (by kernel_rfl) (fun _ _ _ h => h) (Or.inl ⟨by rfl, ?_⟩) (by assumption) ?_; rotate_left
      · (intro w hSw; (try dsimp only at hSw); go_simp; first | done | with_reducible rfl)
      (try simp only [Act.put, List.setIfInBounds_toArray, List.set_cons_zero, List.set_cons_succ])
      refine wpAnyH_take (i := 7) (oi := { dst := some 121, op := Go.Op.load 139 (Go.Operand.tmp 1), type := 139, pos := "term.go:515", after := #[{ on := 6, ground := Go.Ground.guard }], guard := some (6, true) }) (v := undef) rfl (by kernel_rfl) (by kernel_rfl) (by kernel_rfl) (fun _ _ _ h => h) (Or.inr ⟨by rfl, rfl⟩) (by assumption) ?_
      (try simp only [Act.put, List.setIfInBounds_toArray, List.set_cons_zero, List.set_cons_succ])
      refine wpAnyH_take (i := 8) (oi := { dst := some 122, op := Go.Op.call { callee := Go.Callee.value (Go.Operand.func 161), args := #[Go.Operand.tmp 121], argTypes := #[139] }, type := 4, pos := "term.go:515", after := #[{ on := 7, ground := Go.Ground.data }, { on := 6, ground := Go.Ground.chain }, { on := 6, ground := Go.Ground.guard }], guard := some (6, true) }) (v := undef) rfl (by kernel_rfl) (by kernel_rfl) (by kernel_rfl) (fun _ _ _ h => h) (Or.inr ⟨by rfl, rfl⟩) (by assumption) ?_
      (try simp only [Act.put, List.setIfInBounds_toArray, List.set_cons_zero, List.set_cons_succ])
      refine wpAnyH_take (i := 9) (oi := { dst := some 123, op := Go.Op.pick (Go.Operand.tmp 120) (Go.Operand.tmp 122) (Go.Operand.const (Go.Value.bool false)), type := 4, pos := "term.go:515", after := #[{ on := 6, ground := Go.Ground.data }, { on := 8, ground := Go.Ground.data }], guard := none }) (v := ?_) rfl (by kernel_rfl) (by kernel_rfl) (by kernel_rfl) (fun _ _ _ h => h) (Or.inl ⟨by rfl, ?_⟩) (by assumption) ?_; rotate_left
      · (intro w hSw; (try dsimp only at hSw); go_simp; first | done | with_reducible rfl)
      (try simp only [Act.put, List.setIfInBounds_toArray, List.set_cons_zero, List.set_cons_succ])
      refine wpAnyH_take (i := 10) (oi := { dst := some 2, op := Go.Op.assign (Go.Operand.tmp 123), type := 4, pos := "term.go:515", after := #[{ on := 9, ground := Go.Ground.data }, { on := 8, ground := Go.Ground.chain }, { on := 0, ground := Go.Ground.phase }, { on := 1, ground := Go.Ground.phase }, { on := 2, ground := Go.Ground.phase }, { on := 3, ground := Go.Ground.phase }, { on := 4, ground := Go.Ground.phase }, { on := 5, ground := Go.Ground.phase }, { on := 6, ground := Go.Ground.phase }, { on := 7, ground := Go.Ground.phase }, { on := 8, ground := Go.Ground.phase }, { on := 9, ground := Go.Ground.phase }], guard := none }) (v := ?_) rfl (by kernel_rfl) (by kernel_rfl) (by kernel_rfl) (fun _ _ _ h => h) (Or.inl ⟨by rfl, ?_⟩) (by assumption) ?_; rotate_left
      · (intro w hSw; (try dsimp only at hSw); go_simp; first | done | with_reducible rfl)
      (try simp only [Act.put, List.setIfInBounds_toArray, List.set_cons_zero, List.set_cons_succ])
      refine wpAnyH_done (by kernel_rfl) ?_ _
      go_wp2
      go_ret; rw [HRR.out]; exact ⟨by simp, by have := HP3.out; simpa using this⟩
    | true =>
      cases on with
      | true =>
        go_region_held3 (fun W' => W'.cell? ⟨W.heap.size, 0, none⟩ = some (.pointer (some ⟨g, 0, none⟩)))
          (first
            | exact z0
            | exact HZ4.out
            | exact HZ3.out
            | exact HZ2.out
            | (go_split_ands; exact ⟨by assumption, by assumption⟩)
            | fail)
          (first
            | (go_at_call 119; refine (HP1.out.drewN.longest 4 HS.out HLE.out).mono ?_; rintro e w2 ⟨rfl, hp, hg⟩; rw [← H2.out] at hp; have HP2 := Aside0.mk hp; have HX2 := Aside0.mk ((hg.block _ hsz1 (fun e => by injection e with e; omega)).trans HX1.out); have HZ2 := Aside0.mk (show w2.cell? ⟨W.heap.size, 0, none⟩ = some (.pointer (some ⟨g, 0, none⟩)) from (q4 HX2.out 0).trans rfl); clear hp hg; rw [← H2.out, ← HTX.out])
            | (go_at_call 159; refine (HP2.out.add 2 tx a kk true HR.out HN8.out).mono ?_; rintro e w3 ⟨rfl, hp, hkp⟩; have HP3 := Aside0.mk hp; have HX3 := Aside0.mk ((hkp _ (Nat.le_refl _) (Array.getElem?_eq_some_iff.1 HX2.out).1).trans HX2.out); have HZ3 := Aside0.mk (show w3.cell? ⟨W.heap.size, 0, none⟩ = some (.pointer (some ⟨g, 0, none⟩)) from (q4 HX3.out 0).trans rfl); clear hp hkp)
            | (go_at_call 161; have hap := HP3.out.apart HS.out; rw [← HON.out] at hap; refine hap.mono ?_; clear hap; rintro e w4 ⟨rfl, hp, hg⟩; have HP4 := Aside0.mk hp; have HZ4 := Aside0.mk (show w4.cell? ⟨W.heap.size, 0, none⟩ = some (.pointer (some ⟨g, 0, none⟩)) from (q4 ((hg.block _ (Array.getElem?_eq_some_iff.1 HX3.out).1 (fun e => by injection e with e; omega)).trans HX3.out) 0).trans rfl); clear hp hg)
            | fail)
        go_wp2
        go_ret; rw [HRR.out]; exact ⟨by simp, by have := HP4.out; simpa using this⟩
      | false =>
        go_region_held3 (fun W' => W'.cell? ⟨W.heap.size, 0, none⟩ = some (.pointer (some ⟨g, 0, none⟩)))
          (first
            | exact z0
            | exact HZ4.out
            | exact HZ3.out
            | exact HZ2.out
            | (go_split_ands; exact ⟨by assumption, by assumption⟩)
            | fail)
          (first
            | (go_at_call 119; refine (HP1.out.drewN.longest 4 HS.out HLE.out).mono ?_; rintro e w2 ⟨rfl, hp, hg⟩; rw [← H2.out] at hp; have HP2 := Aside0.mk hp; have HX2 := Aside0.mk ((hg.block _ hsz1 (fun e => by injection e with e; omega)).trans HX1.out); have HZ2 := Aside0.mk (show w2.cell? ⟨W.heap.size, 0, none⟩ = some (.pointer (some ⟨g, 0, none⟩)) from (q4 HX2.out 0).trans rfl); clear hp hg; rw [← H2.out, ← HTX.out])
            | (go_at_call 159; refine (HP2.out.add 2 tx a kk true HR.out HN8.out).mono ?_; rintro e w3 ⟨rfl, hp, hkp⟩; have HP3 := Aside0.mk hp; have HX3 := Aside0.mk ((hkp _ (Nat.le_refl _) (Array.getElem?_eq_some_iff.1 HX2.out).1).trans HX2.out); have HZ3 := Aside0.mk (show w3.cell? ⟨W.heap.size, 0, none⟩ = some (.pointer (some ⟨g, 0, none⟩)) from (q4 HX3.out 0).trans rfl); clear hp hkp)
            | (go_at_call 161; have hap := HP3.out.apart HS.out; rw [← HON.out] at hap; refine hap.mono ?_; clear hap; rintro e w4 ⟨rfl, hp, hg⟩; have HP4 := Aside0.mk hp; have HZ4 := Aside0.mk (show w4.cell? ⟨W.heap.size, 0, none⟩ = some (.pointer (some ⟨g, 0, none⟩)) from (q4 ((hg.block _ (Array.getElem?_eq_some_iff.1 HX3.out).1 (fun e => by injection e with e; omega)).trans HX3.out) 0).trans rfl); clear hp hg)
            | fail)
        go_wp2
        go_ret; rw [HRR.out]; exact ⟨by simp, by have := HP4.out; simpa using this⟩
  · have hidx' := index_at (b.toNat : Int) i (by simpa using hidx); have hi0 : (0 : Int) ≤ (i : Int) := Int.natCast_nonneg _; have HIDX := Aside0.mk hidx'
    by_cases hx : a + 1 < s.size
    · have ha2 : (a : Int) + 1 < (s.size : Int) := by omega
      have ha00 : (0 : Int) ≤ (a : Int) + 1 := by omega
      have e1 : decide ((a : Int) + 1 < (s.size : Int)) = true := decide_eq_true ha2; obtain ⟨d, hd⟩ : ∃ d, d = s[a + 1]'hx := ⟨_, rfl⟩
      have hdt : ((s[a + 1]'hx).toNat : Int) = (d.toNat : Int) := by rw [hd]
      have e46 : ((d.toNat : Int) == 46) = false := by
        unfold varAt at hv; rw [dif_pos hx, hc, hidx, ← hd] at hv; simp at hv; simp; omega
      clear hidx hidx' hv hd hi3 hc
      go_enter Try.func120, Try.ntmps120
      go_wp2_with fail
      rw [HW0.out]
      go_quiet (fail)
      generalize nq = nq1
      go_wp2_with fail
      go_quiet (first | (go_at_call 160; exact quiet_of2 (HIDX.out _)))
      go_upto_region 14 with (first
        | (go_at_call 156; refine (HIS.out _).mono ?_; rintro e w' ⟨rfl, nd, rfl⟩)
        | fail)
      have hp1 : PM W.heap.size w0 (W0.drewN (nq1 + nq + nd)) g s (a : Int) fault l st := HP0.out.drewN; have hx1 : (W0.drewN (nq1 + nq + nd)).heap[W.heap.size]? = some (.cells #[.pointer (some ⟨g, 0, none⟩)] 139 (0, 0)) := HN0.out; obtain ⟨W1, hW1⟩ : ∃ W1, W0.drewN (nq1 + nq + nd) = W1 := ⟨_, rfl⟩; rw [hW1] at hp1 hx1 ⊢; have HP1 := Aside0.mk hp1; have HX1 := Aside0.mk hx1; have z0 : W1.cell? ⟨W.heap.size, 0, none⟩ = some (.pointer (some ⟨g, 0, none⟩)) := (q4 hx1 0).trans rfl; have hsz1 : W.heap.size < W1.heap.size := (Array.getElem?_eq_some_iff.1 hx1).1; clear hW1 hp1 hx1 x0 p0 p1 p2 pf1 hw4 e39 e34
      cases r with
      | false =>
        refine wp_region_held_drew (S := fun W' => W'.cell? ⟨W.heap.size, 0, none⟩ = some (.pointer (some ⟨g, 0, none⟩))) (by kernel_rfl) ?_ (fun hHeld => ?_)
        · exact z0
        refine wpAnyH_take (i := 0) (oi := { dst := some 114, op := Go.Op.load 139 (Go.Operand.tmp 1), type := 139, pos := "term.go:515", after := #[], guard := none }) (v := ?_) rfl (by kernel_rfl) (by kernel_rfl) (by kernel_rfl) (fun _ _ _ h => h) (Or.inl ⟨by rfl, ?_⟩) (by assumption) ?_; rotate_left
        · (intro w hSw; (try dsimp only at hSw); go_simp; first | done | with_reducible rfl)
        (try simp only [Act.put, List.setIfInBounds_toArray, List.set_cons_zero, List.set_cons_succ])
        refine wpAnyH_take (i := 1) (oi := { dst := some 115, op := Go.Op.load 139 (Go.Operand.tmp 1), type := 139, pos := "term.go:515", after := #[], guard := none }) (v := ?_) rfl (by kernel_rfl) (by kernel_rfl) (by kernel_rfl) (fun _ _ _ h => h) (Or.inl ⟨by rfl, ?_⟩) (by assumption) ?_; rotate_left
        · (intro w hSw; (try dsimp only at hSw); go_simp; first | done | with_reducible rfl)
        (try simp only [Act.put, List.setIfInBounds_toArray, List.set_cons_zero, List.set_cons_succ])
        refine wpAnyH_take (i := 4) (oi := { dst := some 118, op := Go.Op.move (Go.Operand.tmp 3), type := 3, pos := "term.go:515", after := #[], guard := none }) (v := ?_) rfl (by kernel_rfl) (by kernel_rfl) (by kernel_rfl) (fun _ _ _ h => h) (Or.inl ⟨by rfl, ?_⟩) (by assumption) ?_; rotate_left
        · (intro w hSw; (try dsimp only at hSw); go_simp; first | done | with_reducible rfl)
        (try simp only [Act.put, List.setIfInBounds_toArray, List.set_cons_zero, List.set_cons_succ])
        refine wpAnyH_ready (rs := [2]) (by kernel_rfl) (by simp) ?_; refine AllReadyH.cons (o := { dst := some 116, op := Go.Op.call { callee := Go.Callee.value (Go.Operand.func 119), args := #[Go.Operand.tmp 115, Go.Operand.const (Go.Value.int Go.IntKind.u8 4)], argTypes := #[139, 5] }, type := 9, pos := "term.go:515", after := #[{ on := 1, ground := Go.Ground.data }], guard := none }) rfl (fun K hK => ?_) AllReadyH.nil; go_simp
        (go_at_call 119; refine (HP1.out.drewN.longest 4 HS.out HLE.out).mono ?_; rintro e w2 ⟨rfl, hp, hg⟩; rw [← H2.out] at hp; have HP2 := Aside0.mk hp; have HX2 := Aside0.mk ((hg.block _ hsz1 (fun e => by injection e with e; omega)).trans HX1.out); have HZ2 := Aside0.mk (show w2.cell? ⟨W.heap.size, 0, none⟩ = some (.pointer (some ⟨g, 0, none⟩)) from (q4 HX2.out 0).trans rfl); clear hp hg; rw [← H2.out, ← HTX.out])
        try go_wp2_with fail
        refine hK.out _ _ ?_ (fun hHeld => ?_)
        · (try dsimp only); (go_split_ands; first | exact z0 | exact HZ2.out | exact HZ3.out | (refine ⟨?_, ?_, ?_⟩ <;> assumption) | assumption)
        clear hK K
        (try simp only [Act.put, List.setIfInBounds_toArray, List.set_cons_zero, List.set_cons_succ])
        refine wpAnyH_take (i := 3) (oi := { dst := some 117, op := Go.Op.build 42 #[(0, Go.Operand.const (Go.Value.int Go.IntKind.i64 2)), (1, Go.Operand.tmp 116)], type := 42, pos := "term.go:515", after := #[{ on := 2, ground := Go.Ground.data }], guard := none }) (v := ?_) rfl (by kernel_rfl) (by kernel_rfl) (by kernel_rfl) (fun _ _ _ h => h) (Or.inl ⟨by rfl, ?_⟩) (by assumption) ?_; rotate_left
        · (intro w hSw; (try dsimp only at hSw); go_simp; first | done | with_reducible rfl)
        (try simp only [Act.put, List.setIfInBounds_toArray, List.set_cons_zero, List.set_cons_succ])
        refine wpAnyH_ready (rs := [5]) (by kernel_rfl) (by simp) ?_; refine AllReadyH.cons (o := { dst := some 119, op := Go.Op.call { callee := Go.Callee.value (Go.Operand.func 159), args := #[Go.Operand.tmp 114, Go.Operand.tmp 117, Go.Operand.tmp 118], argTypes := #[139, 42, 3] }, type := 4, pos := "term.go:515", after := #[{ on := 0, ground := Go.Ground.data }, { on := 3, ground := Go.Ground.data }, { on := 4, ground := Go.Ground.data }, { on := 2, ground := Go.Ground.chain }], guard := none }) rfl (fun K hK => ?_) AllReadyH.nil; go_simp
        (go_at_call 159; refine (HP2.out.add 2 tx a kk false HR.out HN8.out).mono ?_; rintro e w3 ⟨rfl, hp, hkp⟩; have HP3 := Aside0.mk hp; have HX3 := Aside0.mk ((hkp _ (Nat.le_refl _) (Array.getElem?_eq_some_iff.1 HX2.out).1).trans HX2.out); have HZ3 := Aside0.mk (show w3.cell? ⟨W.heap.size, 0, none⟩ = some (.pointer (some ⟨g, 0, none⟩)) from (q4 HX3.out 0).trans rfl); clear hp hkp)
        try go_wp2_with fail
        refine hK.out _ _ ?_ (fun hHeld => ?_)
        · (try dsimp only); (go_split_ands; first | exact z0 | exact HZ2.out | exact HZ3.out | (refine ⟨?_, ?_, ?_⟩ <;> assumption) | assumption)
        clear hK K
        (try simp only [Act.put, List.setIfInBounds_toArray, List.set_cons_zero, List.set_cons_succ])
        refine wpAnyH_take (i := 6) (oi := { dst := some 120, op := Go.Op.move (Go.Operand.tmp 119), type := 4, pos := "term.go:515", after := #[{ on := 5, ground := Go.Ground.data }, { on := 5, ground := Go.Ground.chain }], guard := none }) (v := ?_) rfl (by kernel_rfl) (by kernel_rfl) (by kernel_rfl) (fun _ _ _ h => h) (Or.inl ⟨by rfl, ?_⟩) (by assumption) ?_; rotate_left
        · (intro w hSw; (try dsimp only at hSw); go_simp; first | done | with_reducible rfl)
        (try simp only [Act.put, List.setIfInBounds_toArray, List.set_cons_zero, List.set_cons_succ])
        refine wpAnyH_take (i := 7) (oi := { dst := some 121, op := Go.Op.load 139 (Go.Operand.tmp 1), type := 139, pos := "term.go:515", after := #[{ on := 6, ground := Go.Ground.guard }], guard := some (6, true) }) (v := undef) rfl (by kernel_rfl) (by kernel_rfl) (by kernel_rfl) (fun _ _ _ h => h) (Or.inr ⟨by rfl, rfl⟩) (by assumption) ?_
        (try simp only [Act.put, List.setIfInBounds_toArray, List.set_cons_zero, List.set_cons_succ])
        refine wpAnyH_take (i := 8) (oi := { dst := some 122, op := Go.Op.call { callee := Go.Callee.value (Go.Operand.func 161), args := #[Go.Operand.tmp 121], argTypes := #[139] }, type := 4, pos := "term.go:515", after := #[{ on := 7, ground := Go.Ground.data }, { on := 6, ground := Go.Ground.chain }, { on := 6, ground := Go.Ground.guard }], guard := some (6, true) }) (v := undef) rfl (by kernel_rfl) (by kernel_rfl) (by kernel_rfl) (fun _ _ _ h => h) (Or.inr ⟨by rfl, rfl⟩) (by assumption) ?_
        (try simp only [Act.put, List.setIfInBounds_toArray, List.set_cons_zero, List.set_cons_succ])
        refine wpAnyH_take (i := 9) (oi := { dst := some 123, op := Go.Op.pick (Go.Operand.tmp 120) (Go.Operand.tmp 122) (Go.Operand.const (Go.Value.bool false)), type := 4, pos := "term.go:515", after := #[{ on := 6, ground := Go.Ground.data }, { on := 8, ground := Go.Ground.data }], guard := none }) (v := ?_) rfl (by kernel_rfl) (by kernel_rfl) (by kernel_rfl) (fun _ _ _ h => h) (Or.inl ⟨by rfl, ?_⟩) (by assumption) ?_; rotate_left
        · (intro w hSw; (try dsimp only at hSw); go_simp; first | done | with_reducible rfl)
        (try simp only [Act.put, List.setIfInBounds_toArray, List.set_cons_zero, List.set_cons_succ])
        refine wpAnyH_take (i := 10) (oi := { dst := some 2, op := Go.Op.assign (Go.Operand.tmp 123), type := 4, pos := "term.go:515", after := #[{ on := 9, ground := Go.Ground.data }, { on := 8, ground := Go.Ground.chain }, { on := 0, ground := Go.Ground.phase }, { on := 1, ground := Go.Ground.phase }, { on := 2, ground := Go.Ground.phase }, { on := 3, ground := Go.Ground.phase }, { on := 4, ground := Go.Ground.phase }, { on := 5, ground := Go.Ground.phase }, { on := 6, ground := Go.Ground.phase }, { on := 7, ground := Go.Ground.phase }, { on := 8, ground := Go.Ground.phase }, { on := 9, ground := Go.Ground.phase }], guard := none }) (v := ?_) rfl (by kernel_rfl) (by kernel_rfl) (by kernel_rfl) (fun _ _ _ h => h) (Or.inl ⟨by rfl, ?_⟩) (by assumption) ?_; rotate_left
        · (intro w hSw; (try dsimp only at hSw); go_simp; first | done | with_reducible rfl)
        (try simp only [Act.put, List.setIfInBounds_toArray, List.set_cons_zero, List.set_cons_succ])
        refine wpAnyH_done (by kernel_rfl) ?_ _
        go_wp2
        go_ret; rw [HRR.out]; exact ⟨by simp, by have := HP3.out; simpa using this⟩
      | true =>
        cases on with
        | true =>
          go_region_held3 (fun W' => W'.cell? ⟨W.heap.size, 0, none⟩ = some (.pointer (some ⟨g, 0, none⟩)))
            (first
              | exact z0
              | exact HZ4.out
              | exact HZ3.out
              | exact HZ2.out
              | (go_split_ands; exact ⟨by assumption, by assumption⟩)
              | fail)
            (first
              | (go_at_call 119; refine (HP1.out.drewN.longest 4 HS.out HLE.out).mono ?_; rintro e w2 ⟨rfl, hp, hg⟩; rw [← H2.out] at hp; have HP2 := Aside0.mk hp; have HX2 := Aside0.mk ((hg.block _ hsz1 (fun e => by injection e with e; omega)).trans HX1.out); have HZ2 := Aside0.mk (show w2.cell? ⟨W.heap.size, 0, none⟩ = some (.pointer (some ⟨g, 0, none⟩)) from (q4 HX2.out 0).trans rfl); clear hp hg; rw [← H2.out, ← HTX.out])
              | (go_at_call 159; refine (HP2.out.add 2 tx a kk true HR.out HN8.out).mono ?_; rintro e w3 ⟨rfl, hp, hkp⟩; have HP3 := Aside0.mk hp; have HX3 := Aside0.mk ((hkp _ (Nat.le_refl _) (Array.getElem?_eq_some_iff.1 HX2.out).1).trans HX2.out); have HZ3 := Aside0.mk (show w3.cell? ⟨W.heap.size, 0, none⟩ = some (.pointer (some ⟨g, 0, none⟩)) from (q4 HX3.out 0).trans rfl); clear hp hkp)
              | (go_at_call 161; have hap := HP3.out.apart HS.out; rw [← HON.out] at hap; refine hap.mono ?_; clear hap; rintro e w4 ⟨rfl, hp, hg⟩; have HP4 := Aside0.mk hp; have HZ4 := Aside0.mk (show w4.cell? ⟨W.heap.size, 0, none⟩ = some (.pointer (some ⟨g, 0, none⟩)) from (q4 ((hg.block _ (Array.getElem?_eq_some_iff.1 HX3.out).1 (fun e => by injection e with e; omega)).trans HX3.out) 0).trans rfl); clear hp hg)
              | fail)
          go_wp2
          go_ret; rw [HRR.out]; exact ⟨by simp, by have := HP4.out; simpa using this⟩
        | false =>
          go_region_held3 (fun W' => W'.cell? ⟨W.heap.size, 0, none⟩ = some (.pointer (some ⟨g, 0, none⟩)))
            (first
              | exact z0
              | exact HZ4.out
              | exact HZ3.out
              | exact HZ2.out
              | (go_split_ands; exact ⟨by assumption, by assumption⟩)
              | fail)
            (first
              | (go_at_call 119; refine (HP1.out.drewN.longest 4 HS.out HLE.out).mono ?_; rintro e w2 ⟨rfl, hp, hg⟩; rw [← H2.out] at hp; have HP2 := Aside0.mk hp; have HX2 := Aside0.mk ((hg.block _ hsz1 (fun e => by injection e with e; omega)).trans HX1.out); have HZ2 := Aside0.mk (show w2.cell? ⟨W.heap.size, 0, none⟩ = some (.pointer (some ⟨g, 0, none⟩)) from (q4 HX2.out 0).trans rfl); clear hp hg; rw [← H2.out, ← HTX.out])
              | (go_at_call 159; refine (HP2.out.add 2 tx a kk true HR.out HN8.out).mono ?_; rintro e w3 ⟨rfl, hp, hkp⟩; have HP3 := Aside0.mk hp; have HX3 := Aside0.mk ((hkp _ (Nat.le_refl _) (Array.getElem?_eq_some_iff.1 HX2.out).1).trans HX2.out); have HZ3 := Aside0.mk (show w3.cell? ⟨W.heap.size, 0, none⟩ = some (.pointer (some ⟨g, 0, none⟩)) from (q4 HX3.out 0).trans rfl); clear hp hkp)
              | (go_at_call 161; have hap := HP3.out.apart HS.out; rw [← HON.out] at hap; refine hap.mono ?_; clear hap; rintro e w4 ⟨rfl, hp, hg⟩; have HP4 := Aside0.mk hp; have HZ4 := Aside0.mk (show w4.cell? ⟨W.heap.size, 0, none⟩ = some (.pointer (some ⟨g, 0, none⟩)) from (q4 ((hg.block _ (Array.getElem?_eq_some_iff.1 HX3.out).1 (fun e => by injection e with e; omega)).trans HX3.out) 0).trans rfl); clear hp hg)
              | fail)
          go_wp2
          go_ret; rw [HRR.out]; exact ⟨by simp, by have := HP4.out; simpa using this⟩
    · have ha2 : ¬ (a : Int) + 1 < (s.size : Int) := by omega
      have e1 : decide ((a : Int) + 1 < (s.size : Int)) = false := decide_eq_false ha2; clear hidx hidx' hv hi3 hc
      go_enter Try.func120, Try.ntmps120
      go_wp2_with fail
      rw [HW0.out]
      go_quiet (fail)
      generalize nq = nq1
      go_wp2_with fail
      go_quiet (first | (go_at_call 160; exact quiet_of2 (HIDX.out _)))
      go_upto_region 14 with (first
        | (go_at_call 156; refine (HIS.out _).mono ?_; rintro e w' ⟨rfl, nd, rfl⟩)
        | fail)
      have hp1 : PM W.heap.size w0 (W0.drewN (nq1 + nq + nd)) g s (a : Int) fault l st := HP0.out.drewN; have hx1 : (W0.drewN (nq1 + nq + nd)).heap[W.heap.size]? = some (.cells #[.pointer (some ⟨g, 0, none⟩)] 139 (0, 0)) := HN0.out; obtain ⟨W1, hW1⟩ : ∃ W1, W0.drewN (nq1 + nq + nd) = W1 := ⟨_, rfl⟩; rw [hW1] at hp1 hx1 ⊢; have HP1 := Aside0.mk hp1; have HX1 := Aside0.mk hx1; have z0 : W1.cell? ⟨W.heap.size, 0, none⟩ = some (.pointer (some ⟨g, 0, none⟩)) := (q4 hx1 0).trans rfl; have hsz1 : W.heap.size < W1.heap.size := (Array.getElem?_eq_some_iff.1 hx1).1; clear hW1 hp1 hx1 x0 p0 p1 p2 pf1 hw4 e39 e34
      cases r with
      | false =>
        refine wp_region_held_drew (S := fun W' => W'.cell? ⟨W.heap.size, 0, none⟩ = some (.pointer (some ⟨g, 0, none⟩))) (by kernel_rfl) ?_ (fun hHeld => ?_)
        · exact z0
        refine wpAnyH_take (i := 0) (oi := { dst := some 114, op := Go.Op.load 139 (Go.Operand.tmp 1), type := 139, pos := "term.go:515", after := #[], guard := none }) (v := ?_) rfl (by kernel_rfl) (by kernel_rfl) (by kernel_rfl) (fun _ _ _ h => h) (Or.inl ⟨by rfl, ?_⟩) (by assumption) ?_; rotate_left
        · (intro w hSw; (try dsimp only at hSw); go_simp; first | done | with_reducible rfl)
        (try simp only [Act.put, List.setIfInBounds_toArray, List.set_cons_zero, List.set_cons_succ])
        refine wpAnyH_take (i := 1) (oi := { dst := some 115, op := Go.Op.load 139 (Go.Operand.tmp 1), type := 139, pos := "term.go:515", after := #[], guard := none }) (v := ?_) rfl (by kernel_rfl) (by kernel_rfl) (by kernel_rfl) (fun _ _ _ h => h) (Or.inl ⟨by rfl, ?_⟩) (by assumption) ?_; rotate_left
        · (intro w hSw; (try dsimp only at hSw); go_simp; first | done | with_reducible rfl)
        (try simp only [Act.put, List.setIfInBounds_toArray, List.set_cons_zero, List.set_cons_succ])
        refine wpAnyH_take (i := 4) (oi := { dst := some 118, op := Go.Op.move (Go.Operand.tmp 3), type := 3, pos := "term.go:515", after := #[], guard := none }) (v := ?_) rfl (by kernel_rfl) (by kernel_rfl) (by kernel_rfl) (fun _ _ _ h => h) (Or.inl ⟨by rfl, ?_⟩) (by assumption) ?_; rotate_left
        · (intro w hSw; (try dsimp only at hSw); go_simp; first | done | with_reducible rfl)
        (try simp only [Act.put, List.setIfInBounds_toArray, List.set_cons_zero, List.set_cons_succ])
        refine wpAnyH_ready (rs := [2]) (by kernel_rfl) (by simp) ?_; refine AllReadyH.cons (o := { dst := some 116, op := Go.Op.call { callee := Go.Callee.value (Go.Operand.func 119), args := #[Go.Operand.tmp 115, Go.Operand.const (Go.Value.int Go.IntKind.u8 4)], argTypes := #[139, 5] }, type := 9, pos := "term.go:515", after := #[{ on := 1, ground := Go.Ground.data }], guard := none }) rfl (fun K hK => ?_) AllReadyH.nil; go_simp
        (go_at_call 119; refine (HP1.out.drewN.longest 4 HS.out HLE.out).mono ?_; rintro e w2 ⟨rfl, hp, hg⟩; rw [← H2.out] at hp; have HP2 := Aside0.mk hp; have HX2 := Aside0.mk ((hg.block _ hsz1 (fun e => by injection e with e; omega)).trans HX1.out); have HZ2 := Aside0.mk (show w2.cell? ⟨W.heap.size, 0, none⟩ = some (.pointer (some ⟨g, 0, none⟩)) from (q4 HX2.out 0).trans rfl); clear hp hg; rw [← H2.out, ← HTX.out])
        try go_wp2_with fail
        refine hK.out _ _ ?_ (fun hHeld => ?_)
        · (try dsimp only); (go_split_ands; first | exact z0 | exact HZ2.out | exact HZ3.out | (refine ⟨?_, ?_, ?_⟩ <;> assumption) | assumption)
        clear hK K
        (try simp only [Act.put, List.setIfInBounds_toArray, List.set_cons_zero, List.set_cons_succ])
        refine wpAnyH_take (i := 3) (oi := { dst := some 117, op := Go.Op.build 42 #[(0, Go.Operand.const (Go.Value.int Go.IntKind.i64 2)), (1, Go.Operand.tmp 116)], type := 42, pos := "term.go:515", after := #[{ on := 2, ground := Go.Ground.data }], guard := none }) (v := ?_) rfl (by kernel_rfl) (by kernel_rfl) (by kernel_rfl) (fun _ _ _ h => h) (Or.inl ⟨by rfl, ?_⟩) (by assumption) ?_; rotate_left
        · (intro w hSw; (try dsimp only at hSw); go_simp; first | done | with_reducible rfl)
        (try simp only [Act.put, List.setIfInBounds_toArray, List.set_cons_zero, List.set_cons_succ])
        refine wpAnyH_ready (rs := [5]) (by kernel_rfl) (by simp) ?_; refine AllReadyH.cons (o := { dst := some 119, op := Go.Op.call { callee := Go.Callee.value (Go.Operand.func 159), args := #[Go.Operand.tmp 114, Go.Operand.tmp 117, Go.Operand.tmp 118], argTypes := #[139, 42, 3] }, type := 4, pos := "term.go:515", after := #[{ on := 0, ground := Go.Ground.data }, { on := 3, ground := Go.Ground.data }, { on := 4, ground := Go.Ground.data }, { on := 2, ground := Go.Ground.chain }], guard := none }) rfl (fun K hK => ?_) AllReadyH.nil; go_simp
        (go_at_call 159; refine (HP2.out.add 2 tx a kk false HR.out HN8.out).mono ?_; rintro e w3 ⟨rfl, hp, hkp⟩; have HP3 := Aside0.mk hp; have HX3 := Aside0.mk ((hkp _ (Nat.le_refl _) (Array.getElem?_eq_some_iff.1 HX2.out).1).trans HX2.out); have HZ3 := Aside0.mk (show w3.cell? ⟨W.heap.size, 0, none⟩ = some (.pointer (some ⟨g, 0, none⟩)) from (q4 HX3.out 0).trans rfl); clear hp hkp)
        try go_wp2_with fail
        refine hK.out _ _ ?_ (fun hHeld => ?_)
        · (try dsimp only); (go_split_ands; first | exact z0 | exact HZ2.out | exact HZ3.out | (refine ⟨?_, ?_, ?_⟩ <;> assumption) | assumption)
        clear hK K
        (try simp only [Act.put, List.setIfInBounds_toArray, List.set_cons_zero, List.set_cons_succ])
        refine wpAnyH_take (i := 6) (oi := { dst := some 120, op := Go.Op.move (Go.Operand.tmp 119), type := 4, pos := "term.go:515", after := #[{ on := 5, ground := Go.Ground.data }, { on := 5, ground := Go.Ground.chain }], guard := none }) (v := ?_) rfl (by kernel_rfl) (by kernel_rfl) (by kernel_rfl) (fun _ _ _ h => h) (Or.inl ⟨by rfl, ?_⟩) (by assumption) ?_; rotate_left
        · (intro w hSw; (try dsimp only at hSw); go_simp; first | done | with_reducible rfl)
        (try simp only [Act.put, List.setIfInBounds_toArray, List.set_cons_zero, List.set_cons_succ])
        refine wpAnyH_take (i := 7) (oi := { dst := some 121, op := Go.Op.load 139 (Go.Operand.tmp 1), type := 139, pos := "term.go:515", after := #[{ on := 6, ground := Go.Ground.guard }], guard := some (6, true) }) (v := undef) rfl (by kernel_rfl) (by kernel_rfl) (by kernel_rfl) (fun _ _ _ h => h) (Or.inr ⟨by rfl, rfl⟩) (by assumption) ?_
        (try simp only [Act.put, List.setIfInBounds_toArray, List.set_cons_zero, List.set_cons_succ])
        refine wpAnyH_take (i := 8) (oi := { dst := some 122, op := Go.Op.call { callee := Go.Callee.value (Go.Operand.func 161), args := #[Go.Operand.tmp 121], argTypes := #[139] }, type := 4, pos := "term.go:515", after := #[{ on := 7, ground := Go.Ground.data }, { on := 6, ground := Go.Ground.chain }, { on := 6, ground := Go.Ground.guard }], guard := some (6, true) }) (v := undef) rfl (by kernel_rfl) (by kernel_rfl) (by kernel_rfl) (fun _ _ _ h => h) (Or.inr ⟨by rfl, rfl⟩) (by assumption) ?_
        (try simp only [Act.put, List.setIfInBounds_toArray, List.set_cons_zero, List.set_cons_succ])
        refine wpAnyH_take (i := 9) (oi := { dst := some 123, op := Go.Op.pick (Go.Operand.tmp 120) (Go.Operand.tmp 122) (Go.Operand.const (Go.Value.bool false)), type := 4, pos := "term.go:515", after := #[{ on := 6, ground := Go.Ground.data }, { on := 8, ground := Go.Ground.data }], guard := none }) (v := ?_) rfl (by kernel_rfl) (by kernel_rfl) (by kernel_rfl) (fun _ _ _ h => h) (Or.inl ⟨by rfl, ?_⟩) (by assumption) ?_; rotate_left
        · (intro w hSw; (try dsimp only at hSw); go_simp; first | done | with_reducible rfl)
        (try simp only [Act.put, List.setIfInBounds_toArray, List.set_cons_zero, List.set_cons_succ])
        refine wpAnyH_take (i := 10) (oi := { dst := some 2, op := Go.Op.assign (Go.Operand.tmp 123), type := 4, pos := "term.go:515", after := #[{ on := 9, ground := Go.Ground.data }, { on := 8, ground := Go.Ground.chain }, { on := 0, ground := Go.Ground.phase }, { on := 1, ground := Go.Ground.phase }, { on := 2, ground := Go.Ground.phase }, { on := 3, ground := Go.Ground.phase }, { on := 4, ground := Go.Ground.phase }, { on := 5, ground := Go.Ground.phase }, { on := 6, ground := Go.Ground.phase }, { on := 7, ground := Go.Ground.phase }, { on := 8, ground := Go.Ground.phase }, { on := 9, ground := Go.Ground.phase }], guard := none }) (v := ?_) rfl (by kernel_rfl) (by kernel_rfl) (by kernel_rfl) (fun _ _ _ h => h) (Or.inl ⟨by rfl, ?_⟩) (by assumption) ?_; rotate_left
        · (intro w hSw; (try dsimp only at hSw); go_simp; first | done | with_reducible rfl)
        (try simp only [Act.put, List.setIfInBounds_toArray, List.set_cons_zero, List.set_cons_succ])
        refine wpAnyH_done (by kernel_rfl) ?_ _
        go_wp2
        go_ret; rw [HRR.out]; exact ⟨by simp, by have := HP3.out; simpa using this⟩
      | true =>
        cases on with
        | true =>
          go_region_held3 (fun W' => W'.cell? ⟨W.heap.size, 0, none⟩ = some (.pointer (some ⟨g, 0, none⟩)))
            (first
              | exact z0
              | exact HZ4.out
              | exact HZ3.out
              | exact HZ2.out
              | (go_split_ands; exact ⟨by assumption, by assumption⟩)
              | fail)
            (first
              | (go_at_call 119; refine (HP1.out.drewN.longest 4 HS.out HLE.out).mono ?_; rintro e w2 ⟨rfl, hp, hg⟩; rw [← H2.out] at hp; have HP2 := Aside0.mk hp; have HX2 := Aside0.mk ((hg.block _ hsz1 (fun e => by injection e with e; omega)).trans HX1.out); have HZ2 := Aside0.mk (show w2.cell? ⟨W.heap.size, 0, none⟩ = some (.pointer (some ⟨g, 0, none⟩)) from (q4 HX2.out 0).trans rfl); clear hp hg; rw [← H2.out, ← HTX.out])
              | (go_at_call 159; refine (HP2.out.add 2 tx a kk true HR.out HN8.out).mono ?_; rintro e w3 ⟨rfl, hp, hkp⟩; have HP3 := Aside0.mk hp; have HX3 := Aside0.mk ((hkp _ (Nat.le_refl _) (Array.getElem?_eq_some_iff.1 HX2.out).1).trans HX2.out); have HZ3 := Aside0.mk (show w3.cell? ⟨W.heap.size, 0, none⟩ = some (.pointer (some ⟨g, 0, none⟩)) from (q4 HX3.out 0).trans rfl); clear hp hkp)
              | (go_at_call 161; have hap := HP3.out.apart HS.out; rw [← HON.out] at hap; refine hap.mono ?_; clear hap; rintro e w4 ⟨rfl, hp, hg⟩; have HP4 := Aside0.mk hp; have HZ4 := Aside0.mk (show w4.cell? ⟨W.heap.size, 0, none⟩ = some (.pointer (some ⟨g, 0, none⟩)) from (q4 ((hg.block _ (Array.getElem?_eq_some_iff.1 HX3.out).1 (fun e => by injection e with e; omega)).trans HX3.out) 0).trans rfl); clear hp hg)
              | fail)
          go_wp2
          go_ret; rw [HRR.out]; exact ⟨by simp, by have := HP4.out; simpa using this⟩
        | false =>
          go_region_held3 (fun W' => W'.cell? ⟨W.heap.size, 0, none⟩ = some (.pointer (some ⟨g, 0, none⟩)))
            (first
              | exact z0
              | exact HZ4.out
              | exact HZ3.out
              | exact HZ2.out
              | (go_split_ands; exact ⟨by assumption, by assumption⟩)
              | fail)
            (first
              | (go_at_call 119; refine (HP1.out.drewN.longest 4 HS.out HLE.out).mono ?_; rintro e w2 ⟨rfl, hp, hg⟩; rw [← H2.out] at hp; have HP2 := Aside0.mk hp; have HX2 := Aside0.mk ((hg.block _ hsz1 (fun e => by injection e with e; omega)).trans HX1.out); have HZ2 := Aside0.mk (show w2.cell? ⟨W.heap.size, 0, none⟩ = some (.pointer (some ⟨g, 0, none⟩)) from (q4 HX2.out 0).trans rfl); clear hp hg; rw [← H2.out, ← HTX.out])
              | (go_at_call 159; refine (HP2.out.add 2 tx a kk true HR.out HN8.out).mono ?_; rintro e w3 ⟨rfl, hp, hkp⟩; have HP3 := Aside0.mk hp; have HX3 := Aside0.mk ((hkp _ (Nat.le_refl _) (Array.getElem?_eq_some_iff.1 HX2.out).1).trans HX2.out); have HZ3 := Aside0.mk (show w3.cell? ⟨W.heap.size, 0, none⟩ = some (.pointer (some ⟨g, 0, none⟩)) from (q4 HX3.out 0).trans rfl); clear hp hkp)
              | (go_at_call 161; have hap := HP3.out.apart HS.out; rw [← HON.out] at hap; refine hap.mono ?_; clear hap; rintro e w4 ⟨rfl, hp, hg⟩; have HP4 := Aside0.mk hp; have HZ4 := Aside0.mk (show w4.cell? ⟨W.heap.size, 0, none⟩ = some (.pointer (some ⟨g, 0, none⟩)) from (q4 ((hg.block _ (Array.getElem?_eq_some_iff.1 HX3.out).1 (fun e => by injection e with e; omega)).trans HX3.out) 0).trans rfl); clear hp hg)
              | fail)
          go_wp2
          go_ret; rw [HRR.out]; exact ⟨by simp, by have := HP4.out; simpa using this⟩
end Go.Proofs.Ytjhjhhibbmligaa.TE
