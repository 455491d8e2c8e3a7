/- term.Calls. -/
import Derived.Test.YtjhjhhibbmligaaMTEPi3
import Derived.Test.YtjhjhhibbmligaaMTEPq
import Derived.Test.YtjhjhhibbmligaaMTEPs3
import Derived.Laws.IdiomStrings
import Derived.Test.YtjhjhhibbmligaaMTEBa
import Derived.Test.YtjhjhhibbmligaaMTEPa
import Derived.Deep.CutRange
import Derived.Test.YtjhjhhibbmligaaMShelf
import Derived.Deep.RegionWith
section
namespace Go.Proofs.Ytjhjhhibbmligaa.TE
open Go.RowKit Go.Shelf Go.Proofs.YtjhjhhibbmligaaW.PrintWords Go.Proofs.YtjhjhhibbmligaaW.PrintLast Go.Proofs.YtjhjhhibbmligaaW.PrintMore Go.Proofs.Ytjhjhhibbmligaa.Evs
set_option linter.unusedVariables false
set_option linter.unusedSimpArgs false
set_option maxRecDepth 100000 in
set_option maxHeartbeats 4000000 in
theorem followed.calls (q g a : Nat) (s : ByteArray) (m : Int) (W : World) (hx : W.cell? ⟨q, 0, none⟩ = some (.pointer (some ⟨g, 0, none⟩))) (hp0 : W.cell? ⟨g, 0, none⟩ = some (.string s)) (hp1 : W.cell? ⟨g, 1, none⟩ = some (.int .i64 a)) (hs : s.size ≤ 1048576) (ha : a < s.size) :
    Calls Try.prog 157 #[.int .u8 m, .pointer (some ⟨q, 0, none⟩)] W fun e W' => e = .returned (.bool (clsAt m s (a + 1))) ∧ ∃ n, W' = W.drewN n := by
  have ha0 : (0 : Int) ≤ (a : Int) + 1 := by omega
  have hw4 : IntKind.i64.wrap ((a : Int) + 1) = (a : Int) + 1 := by rw [i64_w]; rw [wrap64_id (by omega) (by omega)]
  have HS := Aside0.mk hs; have HA := Aside0.mk ha
  have ht : ((a : Int) + 1).toNat = a + 1 := by omega
  by_cases hlt : a + 1 < s.size
  · have e1 : decide ((a : Int) + 1 < (s.size : Int)) = true := decide_eq_true (by omega)
    have ha1 : (a : Int) + 1 < (s.size : Int) := by omega
    obtain ⟨b, hb⟩ : ∃ b, b = s[a + 1]'hlt := ⟨_, rfl⟩
    have hbt : ((s[a + 1]'hlt).toNat : Int) = (b.toNat : Int) := by rw [hb]
    have hcl : clsAt m s (a + 1) = clsB m b := by unfold clsAt; rw [dif_pos hlt, hb]
    rw [hcl]
    have hcall := fun w => is_calls b m w
    have HCALL := Aside0.mk hcall; clear hcall hcl hb hs ha
    go_enter Try.func157, Try.ntmps157
    go_wp2_with fail
    go_quiet (first | (go_at_call 156; exact Calls.quiet_of (HCALL.out _)))
    go_wp2
    go_ret; exact ⟨rfl, _, rfl⟩
  · have e1 : decide ((a : Int) + 1 < (s.size : Int)) = false := decide_eq_false (by omega)
    have hcl : clsAt m s (a + 1) = false := by unfold clsAt; rw [dif_neg hlt]
    rw [hcl]; clear hcl hs ha
    go_enter Try.func157, Try.ntmps157
    go_wp2_with fail
    go_quiet (fail)
    go_wp2
    go_ret; exact ⟨rfl, _, rfl⟩
theorem digit_marks (b : UInt8) : clsB 2 b = true → b.toNat ≠ 39 ∧ b.toNat ≠ 34 ∧ clsB 1 b = false := by
  revert b
  refine byte_all _ ?_
  decide +kernel
theorem minus_marks (b : UInt8) : b.toNat = 45 → b.toNat ≠ 39 ∧ b.toNat ≠ 34 ∧ clsB 1 b = false ∧ clsB 2 b = false := by
  revert b
  refine byte_all _ ?_
  decide +kernel
set_option maxRecDepth 100000 in
set_option maxHeartbeats 4000000 in
theorem PS.item_number {w0 W : World} {g a : Nat} {s : ByteArray} {fault : Int} {l : List Tm} {st : List Op} (h : PS w0 W g s a fault l st) (hs : s.size ≤ 1048576) (hn8 : l.length ≤ 1099511627776) (b : UInt8)
    (ha : a < s.size) (hc : s[a]'ha = b) (hcl : clsB 2 b = true ∨ b.toNat = 45 ∧ clsAt 2 s (a + 1) = true) (R : Bool × Int × List Tm) (hR : R = tokS s 3 (s.extract a (endF 2 s (a + 1))) a (endF 2 s (a + 1)) fault l) :
    Calls Try.prog 120 #[.pointer (some ⟨g, 0, none⟩)] W fun e W' => e = .returned (.bool R.1) ∧ PS w0 W' g s (endF 2 s (a + 1)) R.2.1 R.2.2 st := by
  have hbl : Below W.heap.size W (W.alloc (.cells #[.pointer (some ⟨g, 0, none⟩)] 139)) := (Below.refl _ _).alloc (Nat.le_refl _) _; have hn0 := World.alloc_heap_new W (.cells #[.pointer (some ⟨g, 0, none⟩)] 139); obtain ⟨W0, hW0⟩ : ∃ W0, W.alloc (.cells #[.pointer (some ⟨g, 0, none⟩)] 139) = W0 := ⟨_, rfl⟩; have HW0 := Aside0.mk hW0; rw [hW0] at hbl hn0; have x0 : W0.cell? ⟨W.heap.size, 0, none⟩ = some (.pointer (some ⟨g, 0, none⟩)) := (q4 hn0 0).trans rfl; have hp0 : PM W.heap.size w0 W0 g s a fault l st := h.pm.newer hbl; obtain ⟨p0, p1, p2, pf1⟩ := hp0.cells
  have hfo := fun n => followed.calls W.heap.size g a s 2 (W0.drewN n) x0 p0 p1 hs ha
  have HFO := Aside0.mk hfo; clear hfo; have hgl : g < W.heap.size := h.lt; have ha0 : (0 : Int) ≤ (a : Int) := Int.natCast_nonneg _
  have ha1 : (a : Int) < (s.size : Int) := by omega
  have hbt : ((s[a]'ha).toNat : Int) = (b.toNat : Int) := by rw [hc]
  have hw4 : IntKind.i64.wrap ((a : Int) + 1) = (a : Int) + 1 := by rw [i64_w]; rw [wrap64_id (by omega) (by omega)]
  have hm : b.toNat ≠ 39 ∧ b.toNat ≠ 34 ∧ clsB 1 b = false := by
    rcases hcl with h | h
    · exact digit_marks b h
    · have := minus_marks b h.1; exact ⟨this.1, this.2.1, this.2.2.1⟩
  obtain ⟨h39, h34, hcl1⟩ := hm
  have e39 : ((b.toNat : Int) == 39) = false := by simp; omega
  have e34 : ((b.toNat : Int) == 34) = false := by simp; omega
  obtain ⟨a2, h2⟩ : ∃ a2, a2 = endF 2 s (a + 1) := ⟨_, rfl⟩; obtain ⟨tx, htx⟩ : ∃ tx, tx = s.extract a a2 := ⟨_, rfl⟩; rw [← h2, ← htx] at hR; rw [← h2]
  have htl : tx.size ≤ 1099511627776 := by
    have h := size_len (s.extract a a2); rw [extract_list, List.length_take, List.length_drop, ← size_len] at h; rw [htx]; omega
  obtain ⟨r, hri⟩ : ∃ r, r = rightS (⟨3, tx, []⟩ : Tm) := ⟨_, rfl⟩; obtain ⟨on, hon⟩ : ∃ on, on = onB s a2 := ⟨_, rfl⟩; obtain ⟨kk, hkk⟩ := (right_ev (x := (⟨3, tx, []⟩ : Tm)) htl).get; rw [← hri] at hkk; unfold tokS at hR; rw [← hri, ← hon] at hR; have HRR := Aside0.mk hR
  have hs' : s.size ≤ 1099511627776 := by omega
  have hle2 : a + 1 ≤ s.size := by omega
  have his := is_at b.toNat b rfl 1 false hcl1; have HIS := Aside0.mk his; have hidx' := index_at (b.toNat : Int) (-1) (by simpa using idx_letter b hcl1); have HIDX := Aside0.mk hidx'
  have hge : (a : Int) ≤ (a2 : Int) := by have := endF_ge 2 s (a + 1); rw [h2]; omega
  have hle3 : (a2 : Int) ≤ (s.size : Int) := by have := endF_le 2 s (a + 1) hle2; rw [h2]; omega
  have h20 : (0 : Int) ≤ (a2 : Int) := Int.natCast_nonneg _; have HLE := Aside0.mk hle2; have HP0 := Aside0.mk hp0; have HBL := Aside0.mk hbl; have HN0 := Aside0.mk hn0; have HN8 := Aside0.mk hn8; have HS := Aside0.mk hs'; have H2 := Aside0.mk h2; have HTX := Aside0.mk htx; have HR := Aside0.mk hkk; have HON := Aside0.mk hon; have HA := Aside0.mk ha; have HGE := Aside0.mk (And.intro hge hle3); clear h hn8 hp0 hbl hW0 hn0 hs hs' h2 htx hkk hon h39 h34 hR hri htl hle2 his hidx' hcl1 hc hge hle3
  rcases hcl with hcl2 | ⟨h45, hf2⟩
  · have HIS2 := Aside0.mk (is_at b.toNat b rfl 2 true hcl2); clear hcl2
    go_enter Try.func120, Try.ntmps120
    go_wp2_with fail
    rw [HW0.out]
    go_quiet (fail)
    generalize nq = nq1
    go_wp2_with fail
    go_quiet (first | (go_at_call 160; exact quiet_of2 (HIDX.out _)))
    go_upto_region 17 with (first
      | (go_at_call 156; refine (HIS.out _).mono ?_; rintro e w' ⟨rfl, nd, rfl⟩)
      | (go_at_call 156; refine (HIS2.out _).mono ?_; rintro e w' ⟨rfl, nd2, rfl⟩)
      | fail)
    have hp1 : PM W.heap.size w0 ((W0.drewN (nq1 + nq + nd + nd2)).setCell ⟨g, 1, none⟩ (.int .i64 ((a : Int) + 1))) g s ((a + 1 : Nat) : Int) fault l st := by have := HP0.out.drewN (m := nq1 + nq + nd + nd2) |>.setAt ((a : Int) + 1); simpa using this
    have hx1 : ((W0.drewN (nq1 + nq + nd + nd2)).setCell ⟨g, 1, none⟩ (.int .i64 ((a : Int) + 1))).heap[W.heap.size]? = some (.cells #[.pointer (some ⟨g, 0, none⟩)] 139 (0, 0)) := (Below.heap_setCell _ ⟨g, 1, none⟩ _ _ (by simp; omega)).trans HN0.out; obtain ⟨W1, hW1⟩ : ∃ W1, (W0.drewN (nq1 + nq + nd + nd2)).setCell ⟨g, 1, none⟩ (.int .i64 ((a : Int) + 1)) = W1 := ⟨_, rfl⟩; rw [hW1] at hp1 hx1 ⊢; have HP1 := Aside0.mk hp1; have HX1 := Aside0.mk hx1; have z0 : W1.cell? ⟨W.heap.size, 0, none⟩ = some (.pointer (some ⟨g, 0, none⟩)) := (q4 hx1 0).trans rfl; have hsz1 : W.heap.size < W1.heap.size := (Array.getElem?_eq_some_iff.1 hx1).1; clear hW1 hp1 hx1 x0 p0 p1 p2 pf1 hw4 e39 e34
    go_wp2_with fail
    refine (HP1.out.longest 2 HS.out HLE.out).mono ?_; rintro e w2 ⟨rfl, hp, hg⟩; rw [← H2.out] at hp; have HP2 := Aside0.mk hp; have HX2 := Aside0.mk ((hg.block _ hsz1 (fun e => by injection e with e; omega)).trans HX1.out); clear hp hg z0; have z0 : w2.cell? ⟨W.heap.size, 0, none⟩ = some (.pointer (some ⟨g, 0, none⟩)) := (q4 HX2.out 0).trans rfl; obtain ⟨p0, p1, _, _⟩ := HP2.out.cells; have hge := HGE.out.1; have hle3 := HGE.out.2; have htx := HTX.out
    go_upto_region 18 with fail
    cases r with
    | false =>
      refine wp_region_held_drew (S := fun W' => W'.cell? ⟨W.heap.size, 0, none⟩ = some (.pointer (some ⟨g, 0, none⟩)) ∧ W'.cell? ⟨g, 0, none⟩ = some (.string s) ∧ W'.cell? ⟨g, 1, none⟩ = some (.int .i64 a2)) (by kernel_rfl) ?_ (fun hHeld => ?_)
      · exact ⟨z0, p0, p1⟩
      refine wpAnyH_take (i := 0) (oi := { dst := some 144, op := Go.Op.load 139 (Go.Operand.tmp 1), type := 139, pos := "term.go:519", after := #[], guard := none }) (v := ?_) rfl (by kernel_rfl) (by kernel_rfl) (by kernel_rfl) (fun _ _ _ h => h) (Or.inl ⟨by rfl, ?_⟩) (by assumption) ?_; rotate_left
      · (intro w hSw; (try dsimp only at hSw); go_simp; first | done | with_reducible rfl)
      (try simp only [Act.put, List.setIfInBounds_toArray, List.set_cons_zero, List.set_cons_succ])
      refine wpAnyH_take (i := 1) (oi := { dst := some 145, op := Go.Op.load 139 (Go.Operand.tmp 1), type := 139, pos := "term.go:519", after := #[], guard := none }) (v := ?_) rfl (by kernel_rfl) (by kernel_rfl) (by kernel_rfl) (fun _ _ _ h => h) (Or.inl ⟨by rfl, ?_⟩) (by assumption) ?_; rotate_left
      · (intro w hSw; (try dsimp only at hSw); go_simp; first | done | with_reducible rfl)
      (try simp only [Act.put, List.setIfInBounds_toArray, List.set_cons_zero, List.set_cons_succ])
      refine wpAnyH_take (i := 2) (oi := { dst := some 146, op := Go.Op.nilCheck (Go.Operand.tmp 145), type := 0, pos := "term.go:519", after := #[{ on := 1, ground := Go.Ground.data }], guard := none }) (v := ?_) rfl (by kernel_rfl) (by kernel_rfl) (by kernel_rfl) (fun _ _ _ h => h) (Or.inl ⟨by rfl, ?_⟩) (by assumption) ?_; rotate_left
      · (intro w hSw; (try dsimp only at hSw); go_simp; first | done | with_reducible rfl)
      (try simp only [Act.put, List.setIfInBounds_toArray, List.set_cons_zero, List.set_cons_succ])
      refine wpAnyH_take (i := 3) (oi := { dst := some 147, op := Go.Op.fieldAddr 142 (Go.Operand.tmp 146) 0, type := 0, pos := "term.go:519", after := #[{ on := 2, ground := Go.Ground.data }], guard := none }) (v := ?_) rfl (by kernel_rfl) (by kernel_rfl) (by kernel_rfl) (fun _ _ _ h => h) (Or.inl ⟨by rfl, ?_⟩) (by assumption) ?_; rotate_left
      · (intro w hSw; (try dsimp only at hSw); go_simp; first | done | with_reducible rfl)
      (try simp only [Act.put, List.setIfInBounds_toArray, List.set_cons_zero, List.set_cons_succ])
      refine wpAnyH_take (i := 4) (oi := { dst := some 148, op := Go.Op.load 9 (Go.Operand.tmp 147), type := 9, pos := "term.go:519", after := #[{ on := 3, ground := Go.Ground.data }], guard := none }) (v := ?_) rfl (by kernel_rfl) (by kernel_rfl) (by kernel_rfl) (fun _ _ _ h => h) (Or.inl ⟨by rfl, ?_⟩) (by assumption) ?_; rotate_left
      · (intro w hSw; (try dsimp only at hSw); go_simp; first | done | with_reducible rfl)
      (try simp only [Act.put, List.setIfInBounds_toArray, List.set_cons_zero, List.set_cons_succ])
      refine wpAnyH_take (i := 5) (oi := { dst := some 149, op := Go.Op.move (Go.Operand.tmp 3), type := 3, pos := "term.go:519", after := #[], guard := none }) (v := ?_) rfl (by kernel_rfl) (by kernel_rfl) (by kernel_rfl) (fun _ _ _ h => h) (Or.inl ⟨by rfl, ?_⟩) (by assumption) ?_; rotate_left
      · (intro w hSw; (try dsimp only at hSw); go_simp; first | done | with_reducible rfl)
      (try simp only [Act.put, List.setIfInBounds_toArray, List.set_cons_zero, List.set_cons_succ])
      refine wpAnyH_take (i := 6) (oi := { dst := some 150, op := Go.Op.load 139 (Go.Operand.tmp 1), type := 139, pos := "term.go:519", after := #[], guard := none }) (v := ?_) rfl (by kernel_rfl) (by kernel_rfl) (by kernel_rfl) (fun _ _ _ h => h) (Or.inl ⟨by rfl, ?_⟩) (by assumption) ?_; rotate_left
      · (intro w hSw; (try dsimp only at hSw); go_simp; first | done | with_reducible rfl)
      (try simp only [Act.put, List.setIfInBounds_toArray, List.set_cons_zero, List.set_cons_succ])
      refine wpAnyH_take (i := 7) (oi := { dst := some 151, op := Go.Op.nilCheck (Go.Operand.tmp 150), type := 0, pos := "term.go:519", after := #[{ on := 6, ground := Go.Ground.data }], guard := none }) (v := ?_) rfl (by kernel_rfl) (by kernel_rfl) (by kernel_rfl) (fun _ _ _ h => h) (Or.inl ⟨by rfl, ?_⟩) (by assumption) ?_; rotate_left
      · (intro w hSw; (try dsimp only at hSw); go_simp; first | done | with_reducible rfl)
      (try simp only [Act.put, List.setIfInBounds_toArray, List.set_cons_zero, List.set_cons_succ])
      refine wpAnyH_take (i := 8) (oi := { dst := some 152, op := Go.Op.fieldAddr 142 (Go.Operand.tmp 151) 1, type := 0, pos := "term.go:519", after := #[{ on := 7, ground := Go.Ground.data }], guard := none }) (v := ?_) rfl (by kernel_rfl) (by kernel_rfl) (by kernel_rfl) (fun _ _ _ h => h) (Or.inl ⟨by rfl, ?_⟩) (by assumption) ?_; rotate_left
      · (intro w hSw; (try dsimp only at hSw); go_simp; first | done | with_reducible rfl)
      (try simp only [Act.put, List.setIfInBounds_toArray, List.set_cons_zero, List.set_cons_succ])
      refine wpAnyH_take (i := 9) (oi := { dst := some 153, op := Go.Op.load 3 (Go.Operand.tmp 152), type := 3, pos := "term.go:519", after := #[{ on := 8, ground := Go.Ground.data }], guard := none }) (v := ?_) rfl (by kernel_rfl) (by kernel_rfl) (by kernel_rfl) (fun _ _ _ h => h) (Or.inl ⟨by rfl, ?_⟩) (by assumption) ?_; rotate_left
      · (intro w hSw; (try dsimp only at hSw); go_simp; first | done | with_reducible rfl)
      (try simp only [Act.put, List.setIfInBounds_toArray, List.set_cons_zero, List.set_cons_succ])
      refine wpAnyH_take (i := 10) (oi := { dst := some 154, op := Go.Op.slice 9 (Go.Operand.tmp 148) (some (Go.Operand.tmp 149)) (some (Go.Operand.tmp 153)) none, type := 9, pos := "term.go:519", after := #[{ on := 4, ground := Go.Ground.data }, { on := 5, ground := Go.Ground.data }, { on := 9, ground := Go.Ground.data }], guard := none }) (v := ?_) rfl (by kernel_rfl) (by kernel_rfl) (by kernel_rfl) (fun _ _ _ h => h) (Or.inl ⟨by rfl, ?_⟩) (by assumption) ?_; rotate_left
      · (intro w hSw; (try dsimp only at hSw); go_simp; first | done | with_reducible rfl)
      (try simp only [Act.put, List.setIfInBounds_toArray, List.set_cons_zero, List.set_cons_succ])
      refine wpAnyH_take (i := 11) (oi := { dst := some 155, op := Go.Op.build 42 #[(0, Go.Operand.const (Go.Value.int Go.IntKind.i64 3)), (1, Go.Operand.tmp 154)], type := 42, pos := "term.go:519", after := #[{ on := 10, ground := Go.Ground.data }], guard := none }) (v := ?_) rfl (by kernel_rfl) (by kernel_rfl) (by kernel_rfl) (fun _ _ _ h => h) (Or.inl ⟨by rfl, ?_⟩) (by assumption) ?_; rotate_left
      · (intro w hSw; (try dsimp only at hSw); go_simp; first | done | with_reducible rfl)
      (try simp only [Act.put, List.setIfInBounds_toArray, List.set_cons_zero, List.set_cons_succ])
      refine wpAnyH_take (i := 12) (oi := { dst := some 156, op := Go.Op.move (Go.Operand.tmp 3), type := 3, pos := "term.go:519", after := #[], guard := none }) (v := ?_) rfl (by kernel_rfl) (by kernel_rfl) (by kernel_rfl) (fun _ _ _ h => h) (Or.inl ⟨by rfl, ?_⟩) (by assumption) ?_; rotate_left
      · (intro w hSw; (try dsimp only at hSw); go_simp; first | done | with_reducible rfl)
      (try simp only [Act.put, List.setIfInBounds_toArray, List.set_cons_zero, List.set_cons_succ])
      refine wpAnyH_ready (rs := [13]) (by kernel_rfl) (by simp) ?_; refine AllReadyH.cons (o := { dst := some 157, op := Go.Op.call { callee := Go.Callee.value (Go.Operand.func 159), args := #[Go.Operand.tmp 144, Go.Operand.tmp 155, Go.Operand.tmp 156], argTypes := #[139, 42, 3] }, type := 4, pos := "term.go:519", after := #[{ on := 0, ground := Go.Ground.data }, { on := 11, ground := Go.Ground.data }, { on := 12, ground := Go.Ground.data }], guard := none }) rfl (fun K hK => ?_) AllReadyH.nil; go_simp
      (go_at_call 159; try rw [← HTX.out]; refine (HP2.out.drewN.add 3 tx a kk false HR.out HN8.out).mono ?_; rintro e w3 ⟨rfl, hp, hkp⟩; have HP3 := Aside0.mk hp; have HX3 := Aside0.mk ((hkp _ (Nat.le_refl _) (Array.getElem?_eq_some_iff.1 HX2.out).1).trans HX2.out); have HZ3 := Aside0.mk (show w3.cell? ⟨W.heap.size, 0, none⟩ = some (.pointer (some ⟨g, 0, none⟩)) from (q4 HX3.out 0).trans rfl); clear hp hkp)
      try go_wp2_with fail
      refine hK.out _ _ ?_ (fun hHeld => ?_)
      · (try dsimp only); (go_split_ands; first | exact ⟨z0, p0, p1⟩ | exact ⟨HZ3.out, HP3.out.cells.1, HP3.out.cells.2.1⟩ | (refine ⟨?_, ?_, ?_⟩ <;> assumption) | assumption)
      clear hK K
      (try simp only [Act.put, List.setIfInBounds_toArray, List.set_cons_zero, List.set_cons_succ])
      refine wpAnyH_take (i := 14) (oi := { dst := some 158, op := Go.Op.move (Go.Operand.tmp 157), type := 4, pos := "term.go:519", after := #[{ on := 13, ground := Go.Ground.data }, { on := 13, ground := Go.Ground.chain }], guard := none }) (v := ?_) rfl (by kernel_rfl) (by kernel_rfl) (by kernel_rfl) (fun _ _ _ h => h) (Or.inl ⟨by rfl, ?_⟩) (by assumption) ?_; rotate_left
      · (intro w hSw; (try dsimp only at hSw); go_simp; first | done | with_reducible rfl)
      (try simp only [Act.put, List.setIfInBounds_toArray, List.set_cons_zero, List.set_cons_succ])
      refine wpAnyH_take (i := 15) (oi := { dst := some 159, op := Go.Op.load 139 (Go.Operand.tmp 1), type := 139, pos := "term.go:519", after := #[{ on := 14, ground := Go.Ground.guard }], guard := some (14, true) }) (v := undef) rfl (by kernel_rfl) (by kernel_rfl) (by kernel_rfl) (fun _ _ _ h => h) (Or.inr ⟨by rfl, rfl⟩) (by assumption) ?_
      (try simp only [Act.put, List.setIfInBounds_toArray, List.set_cons_zero, List.set_cons_succ])
      refine wpAnyH_take (i := 16) (oi := { dst := some 160, op := Go.Op.call { callee := Go.Callee.value (Go.Operand.func 161), args := #[Go.Operand.tmp 159], argTypes := #[139] }, type := 4, pos := "term.go:519", after := #[{ on := 15, ground := Go.Ground.data }, { on := 14, ground := Go.Ground.chain }, { on := 14, ground := Go.Ground.guard }], guard := some (14, true) }) (v := undef) rfl (by kernel_rfl) (by kernel_rfl) (by kernel_rfl) (fun _ _ _ h => h) (Or.inr ⟨by rfl, rfl⟩) (by assumption) ?_
      (try simp only [Act.put, List.setIfInBounds_toArray, List.set_cons_zero, List.set_cons_succ])
      refine wpAnyH_take (i := 17) (oi := { dst := some 161, op := Go.Op.pick (Go.Operand.tmp 158) (Go.Operand.tmp 160) (Go.Operand.const (Go.Value.bool false)), type := 4, pos := "term.go:519", after := #[{ on := 14, ground := Go.Ground.data }, { on := 16, ground := Go.Ground.data }], guard := none }) (v := ?_) rfl (by kernel_rfl) (by kernel_rfl) (by kernel_rfl) (fun _ _ _ h => h) (Or.inl ⟨by rfl, ?_⟩) (by assumption) ?_; rotate_left
      · (intro w hSw; (try dsimp only at hSw); go_simp; first | done | with_reducible rfl)
      (try simp only [Act.put, List.setIfInBounds_toArray, List.set_cons_zero, List.set_cons_succ])
      refine wpAnyH_take (i := 18) (oi := { dst := some 2, op := Go.Op.assign (Go.Operand.tmp 161), type := 4, pos := "term.go:519", after := #[{ on := 17, ground := Go.Ground.data }, { on := 16, ground := Go.Ground.chain }, { on := 0, ground := Go.Ground.phase }, { on := 1, ground := Go.Ground.phase }, { on := 2, ground := Go.Ground.phase }, { on := 3, ground := Go.Ground.phase }, { on := 4, ground := Go.Ground.phase }, { on := 5, ground := Go.Ground.phase }, { on := 6, ground := Go.Ground.phase }, { on := 7, ground := Go.Ground.phase }, { on := 8, ground := Go.Ground.phase }, { on := 9, ground := Go.Ground.phase }, { on := 10, ground := Go.Ground.phase }, { on := 11, ground := Go.Ground.phase }, { on := 12, ground := Go.Ground.phase }, { on := 13, ground := Go.Ground.phase }, { on := 14, ground := Go.Ground.phase }, { on := 15, ground := Go.Ground.phase }, { on := 16, ground := Go.Ground.phase }, { on := 17, ground := Go.Ground.phase }], guard := none }) (v := ?_) rfl (by kernel_rfl) (by kernel_rfl) (by kernel_rfl) (fun _ _ _ h => h) (Or.inl ⟨by rfl, ?_⟩) (by assumption) ?_; rotate_left
      · (intro w hSw; (try dsimp only at hSw); go_simp; first | done | with_reducible rfl)
      (try simp only [Act.put, List.setIfInBounds_toArray, List.set_cons_zero, List.set_cons_succ])
      refine wpAnyH_done (by kernel_rfl) ?_ _
      go_wp2
      go_ret; rw [HRR.out]; exact ⟨by simp, by have := HP3.out; simpa using this⟩
    | true =>
      cases on with
      | true =>
        go_region_held3 (fun W' => W'.cell? ⟨W.heap.size, 0, none⟩ = some (.pointer (some ⟨g, 0, none⟩)) ∧ W'.cell? ⟨g, 0, none⟩ = some (.string s) ∧ W'.cell? ⟨g, 1, none⟩ = some (.int .i64 a2))
          (first
            | exact ⟨z0, p0, p1⟩
            | exact ⟨HZ4.out, HP4.out.cells.1, HP4.out.cells.2.1⟩
            | exact ⟨HZ3.out, HP3.out.cells.1, HP3.out.cells.2.1⟩
            | (go_split_ands; exact ⟨by assumption, by assumption, by assumption⟩)
            | fail)
          (first
            | (go_at_call 159; try rw [← HTX.out]; refine (HP2.out.drewN.add 3 tx a kk true HR.out HN8.out).mono ?_; rintro e w3 ⟨rfl, hp, hkp⟩; have HP3 := Aside0.mk hp; have HX3 := Aside0.mk ((hkp _ (Nat.le_refl _) (Array.getElem?_eq_some_iff.1 HX2.out).1).trans HX2.out); have HZ3 := Aside0.mk (show w3.cell? ⟨W.heap.size, 0, none⟩ = some (.pointer (some ⟨g, 0, none⟩)) from (q4 HX3.out 0).trans rfl); clear hp hkp)
            | (go_at_call 161; have hap := HP3.out.apart HS.out; rw [← HON.out] at hap; refine hap.mono ?_; clear hap; rintro e w4 ⟨rfl, hp, hg⟩; have HP4 := Aside0.mk hp; have HZ4 := Aside0.mk (show w4.cell? ⟨W.heap.size, 0, none⟩ = some (.pointer (some ⟨g, 0, none⟩)) from (q4 ((hg.block _ (Array.getElem?_eq_some_iff.1 HX3.out).1 (fun e => by injection e with e; omega)).trans HX3.out) 0).trans rfl); clear hp hg)
            | fail)
        go_wp2
        go_ret; rw [HRR.out]; exact ⟨by simp, by have := HP4.out; simpa using this⟩
      | false =>
        go_region_held3 (fun W' => W'.cell? ⟨W.heap.size, 0, none⟩ = some (.pointer (some ⟨g, 0, none⟩)) ∧ W'.cell? ⟨g, 0, none⟩ = some (.string s) ∧ W'.cell? ⟨g, 1, none⟩ = some (.int .i64 a2))
          (first
            | exact ⟨z0, p0, p1⟩
            | exact ⟨HZ4.out, HP4.out.cells.1, HP4.out.cells.2.1⟩
            | exact ⟨HZ3.out, HP3.out.cells.1, HP3.out.cells.2.1⟩
            | (go_split_ands; exact ⟨by assumption, by assumption, by assumption⟩)
            | fail)
          (first
            | (go_at_call 159; try rw [← HTX.out]; refine (HP2.out.drewN.add 3 tx a kk true HR.out HN8.out).mono ?_; rintro e w3 ⟨rfl, hp, hkp⟩; have HP3 := Aside0.mk hp; have HX3 := Aside0.mk ((hkp _ (Nat.le_refl _) (Array.getElem?_eq_some_iff.1 HX2.out).1).trans HX2.out); have HZ3 := Aside0.mk (show w3.cell? ⟨W.heap.size, 0, none⟩ = some (.pointer (some ⟨g, 0, none⟩)) from (q4 HX3.out 0).trans rfl); clear hp hkp)
            | (go_at_call 161; have hap := HP3.out.apart HS.out; rw [← HON.out] at hap; refine hap.mono ?_; clear hap; rintro e w4 ⟨rfl, hp, hg⟩; have HP4 := Aside0.mk hp; have HZ4 := Aside0.mk (show w4.cell? ⟨W.heap.size, 0, none⟩ = some (.pointer (some ⟨g, 0, none⟩)) from (q4 ((hg.block _ (Array.getElem?_eq_some_iff.1 HX3.out).1 (fun e => by injection e with e; omega)).trans HX3.out) 0).trans rfl); clear hp hg)
            | fail)
        go_wp2
        go_ret; rw [HRR.out]; exact ⟨by simp, by have := HP4.out; simpa using this⟩
  · have e45 : ((b.toNat : Int) == 45) = true := by simp; omega
    have HIS2 := Aside0.mk (is_at b.toNat b rfl 2 false (minus_marks b h45).2.2.2); have hf3 := HFO.out; rw [hf2] at hf3; have HFF := Aside0.mk hf3; clear h45 hf3 hf2
    go_enter Try.func120, Try.ntmps120
    go_wp2_with fail
    rw [HW0.out]
    go_quiet (fail)
    generalize nq = nq1
    go_wp2_with fail
    go_quiet (first | (go_at_call 160; exact quiet_of2 (HIDX.out _)))
    go_upto_region 17 with (first
      | (go_at_call 156; refine (HIS.out _).mono ?_; rintro e w' ⟨rfl, nd, rfl⟩)
      | (go_at_call 156; refine (HIS2.out _).mono ?_; rintro e w' ⟨rfl, nd2, rfl⟩)
      | (go_at_call 157; refine (HFF.out _).mono ?_; rintro e w' ⟨rfl, nd3, rfl⟩)
      | fail)
    have hp1 : PM W.heap.size w0 ((W0.drewN (nq1 + nq + nd + nd2 + nd3)).setCell ⟨g, 1, none⟩ (.int .i64 ((a : Int) + 1))) g s ((a + 1 : Nat) : Int) fault l st := by have := HP0.out.drewN (m := nq1 + nq + nd + nd2 + nd3) |>.setAt ((a : Int) + 1); simpa using this
    have hx1 : ((W0.drewN (nq1 + nq + nd + nd2 + nd3)).setCell ⟨g, 1, none⟩ (.int .i64 ((a : Int) + 1))).heap[W.heap.size]? = some (.cells #[.pointer (some ⟨g, 0, none⟩)] 139 (0, 0)) := (Below.heap_setCell _ ⟨g, 1, none⟩ _ _ (by simp; omega)).trans HN0.out; obtain ⟨W1, hW1⟩ : ∃ W1, (W0.drewN (nq1 + nq + nd + nd2 + nd3)).setCell ⟨g, 1, none⟩ (.int .i64 ((a : Int) + 1)) = W1 := ⟨_, rfl⟩; rw [hW1] at hp1 hx1 ⊢; have HP1 := Aside0.mk hp1; have HX1 := Aside0.mk hx1; have z0 : W1.cell? ⟨W.heap.size, 0, none⟩ = some (.pointer (some ⟨g, 0, none⟩)) := (q4 hx1 0).trans rfl; have hsz1 : W.heap.size < W1.heap.size := (Array.getElem?_eq_some_iff.1 hx1).1; clear hW1 hp1 hx1 x0 p0 p1 p2 pf1 hw4 e39 e34 e45
    go_wp2_with fail
    refine (HP1.out.longest 2 HS.out HLE.out).mono ?_; rintro e w2 ⟨rfl, hp, hg⟩; rw [← H2.out] at hp; have HP2 := Aside0.mk hp; have HX2 := Aside0.mk ((hg.block _ hsz1 (fun e => by injection e with e; omega)).trans HX1.out); clear hp hg z0; have z0 : w2.cell? ⟨W.heap.size, 0, none⟩ = some (.pointer (some ⟨g, 0, none⟩)) := (q4 HX2.out 0).trans rfl; obtain ⟨p0, p1, _, _⟩ := HP2.out.cells; have hge := HGE.out.1; have hle3 := HGE.out.2; have htx := HTX.out
    go_upto_region 18 with fail
    cases r with
    | false =>
      refine wp_region_held_drew (S := fun W' => W'.cell? ⟨W.heap.size, 0, none⟩ = some (.pointer (some ⟨g, 0, none⟩)) ∧ W'.cell? ⟨g, 0, none⟩ = some (.string s) ∧ W'.cell? ⟨g, 1, none⟩ = some (.int .i64 a2)) (by kernel_rfl) ?_ (fun hHeld => ?_)
      · exact ⟨z0, p0, p1⟩
      refine wpAnyH_take (i := 0) (oi := { dst := some 144, op := Go.Op.load 139 (Go.Operand.tmp 1), type := 139, pos := "term.go:519", after := #[], guard := none }) (v := ?_) rfl (by kernel_rfl) (by kernel_rfl) (by kernel_rfl) (fun _ _ _ h => h) (Or.inl ⟨by rfl, ?_⟩) (by assumption) ?_; rotate_left
      · (intro w hSw; (try dsimp only at hSw); go_simp; first | done | with_reducible rfl)
      (try simp only [Act.put, List.setIfInBounds_toArray, List.set_cons_zero, List.set_cons_succ])
      refine wpAnyH_take (i := 1) (oi := { dst := some 145, op := Go.Op.load 139 (Go.Operand.tmp 1), type := 139, pos := "term.go:519", after := #[], guard := none }) (v := ?_) rfl (by kernel_rfl) (by kernel_rfl) (by kernel_rfl) (fun _ _ _ h => h) (Or.inl ⟨by rfl, ?_⟩) (by assumption) ?_; rotate_left
      · (intro w hSw; (try dsimp only at hSw); go_simp; first | done | with_reducible rfl)
      (try simp only [Act.put, List.setIfInBounds_toArray, List.set_cons_zero, List.set_cons_succ])
      refine wpAnyH_take (i := 2) (oi := { dst := some 146, op := Go.Op.nilCheck (Go.Operand.tmp 145), type := 0, pos := "term.go:519", after := #[{ on := 1, ground := Go.Ground.data }], guard := none }) (v := ?_) rfl (by kernel_rfl) (by kernel_rfl) (by kernel_rfl) (fun _ _ _ h => h) (Or.inl ⟨by rfl, ?_⟩) (by assumption) ?_; rotate_left
      · (intro w hSw; (try dsimp only at hSw); go_simp; first | done | with_reducible rfl)
      (try simp only [Act.put, List.setIfInBounds_toArray, List.set_cons_zero, List.set_cons_succ])
      refine wpAnyH_take (i := 3) (oi := { dst := some 147, op := Go.Op.fieldAddr 142 (Go.Operand.tmp 146) 0, type := 0, pos := "term.go:519", after := #[{ on := 2, ground := Go.Ground.data }], guard := none }) (v := ?_) rfl (by kernel_rfl) (by kernel_rfl) (by kernel_rfl) (fun _ _ _ h => h) (Or.inl ⟨by rfl, ?_⟩) (by assumption) ?_; rotate_left
      · (intro w hSw; (try dsimp only at hSw); go_simp; first | done | with_reducible rfl)
      (try simp only [Act.put, List.setIfInBounds_toArray, List.set_cons_zero, List.set_cons_succ])
      refine wpAnyH_take (i := 4) (oi := { dst := some 148, op := Go.Op.load 9 (Go.Operand.tmp 147), type := 9, pos := "term.go:519", after := #[{ on := 3, ground := Go.Ground.data }], guard := none }) (v := ?_) rfl (by kernel_rfl) (by kernel_rfl) (by kernel_rfl) (fun _ _ _ h => h) (Or.inl ⟨by rfl, ?_⟩) (by assumption) ?_; rotate_left
      · (intro w hSw; (try dsimp only at hSw); go_simp; first | done | with_reducible rfl)
      (try simp only [Act.put, List.setIfInBounds_toArray, List.set_cons_zero, List.set_cons_succ])
      refine wpAnyH_take (i := 5) (oi := { dst := some 149, op := Go.Op.move (Go.Operand.tmp 3), type := 3, pos := "term.go:519", after := #[], guard := none }) (v := ?_) rfl (by kernel_rfl) (by kernel_rfl) (by kernel_rfl) (fun _ _ _ h => h) (Or.inl ⟨by rfl, ?_⟩) (by assumption) ?_; rotate_left
      · (intro w hSw; (try dsimp only at hSw); go_simp; first | done | with_reducible rfl)
      (try simp only [Act.put, List.setIfInBounds_toArray, List.set_cons_zero, List.set_cons_succ])
      refine wpAnyH_take (i := 6) (oi := { dst := some 150, op := Go.Op.load 139 (Go.Operand.tmp 1), type := 139, pos := "term.go:519", after := #[], guard := none }) (v := ?_) rfl (by kernel_rfl) (by kernel_rfl) (by kernel_rfl) (fun _ _ _ h => h) (Or.inl ⟨by rfl, ?_⟩) (by assumption) ?_; rotate_left
      · (intro w hSw; (try dsimp only at hSw); go_simp; first | done | with_reducible rfl)
      (try simp only [Act.put, List.setIfInBounds_toArray, List.set_cons_zero, List.set_cons_succ])
      refine wpAnyH_take (i := 7) (oi := { dst := some 151, op := Go.Op.nilCheck (Go.Operand.tmp 150), type := 0, pos := "term.go:519", after := #[{ on := 6, ground := Go.Ground.data }], guard := none }) (v := ?_) rfl (by kernel_rfl) (by kernel_rfl) (by kernel_rfl) (fun _ _ _ h => h) (Or.inl ⟨by rfl, ?_⟩) (by assumption) ?_; rotate_left
      · (intro w hSw; (try dsimp only at hSw); go_simp; first | done | with_reducible rfl)
      (try simp only [Act.put, List.setIfInBounds_toArray, List.set_cons_zero, List.set_cons_succ])
      refine wpAnyH_take (i := 8) (oi := { dst := some 152, op := Go.Op.fieldAddr 142 (Go.Operand.tmp 151) 1, type := 0, pos := "term.go:519", after := #[{ on := 7, ground := Go.Ground.data }], guard := none }) (v := ?_) rfl (by kernel_rfl) (by kernel_rfl) (by kernel_rfl) (fun _ _ _ h => h) (Or.inl ⟨by rfl, ?_⟩) (by assumption) ?_; rotate_left
      · (intro w hSw; (try dsimp only at hSw); go_simp; first | done | with_reducible rfl)
      (try simp only [Act.put, List.setIfInBounds_toArray, List.set_cons_zero, List.set_cons_succ])
      refine wpAnyH_take (i := 9) (oi := { dst := some 153, op := Go.Op.load 3 (Go.Operand.tmp 152), type := 3, pos := "term.go:519", after := #[{ on := 8, ground := Go.Ground.data }], guard := none }) (v := ?_) rfl (by kernel_rfl) (by kernel_rfl) (by kernel_rfl) (fun _ _ _ h => h) (Or.inl ⟨by rfl, ?_⟩) (by assumption) ?_; rotate_left
      · (intro w hSw; (try dsimp only at hSw); go_simp; first | done | with_reducible rfl)
      (try simp only [Act.put, List.setIfInBounds_toArray, List.set_cons_zero, List.set_cons_succ])
      refine wpAnyH_take (i := 10) (oi := { dst := some 154, op := Go.Op.slice 9 (Go.Operand.tmp 148) (some (Go.Operand.tmp 149)) (some (Go.Operand.tmp 153)) none, type := 9, pos := "term.go:519", after := #[{ on := 4, ground := Go.Ground.data }, { on := 5, ground := Go.Ground.data }, { on := 9, ground := Go.Ground.data }], guard := none }) (v := ?_) rfl (by kernel_rfl) (by kernel_rfl) (by kernel_rfl) (fun _ _ _ h => h) (Or.inl ⟨by rfl, ?_⟩) (by assumption) ?_; rotate_left
      · (intro w hSw; (try dsimp only at hSw); go_simp; first | done | with_reducible rfl)
      (try simp only [Act.put, List.setIfInBounds_toArray, List.set_cons_zero, List.set_cons_succ])
      refine wpAnyH_take (i := 11) (oi := { dst := some 155, op := Go.Op.build 42 #[(0, Go.Operand.const (Go.Value.int Go.IntKind.i64 3)), (1, Go.Operand.tmp 154)], type := 42, pos := "term.go:519", after := #[{ on := 10, ground := Go.Ground.data }], guard := none }) (v := ?_) rfl (by kernel_rfl) (by kernel_rfl) (by kernel_rfl) (fun _ _ _ h => h) (Or.inl ⟨by rfl, ?_⟩) (by assumption) ?_; rotate_left
      · (intro w hSw; (try dsimp only at hSw); go_simp; first | done | with_reducible rfl)
      (try simp only [Act.put, List.setIfInBounds_toArray, List.set_cons_zero, List.set_cons_succ])
      refine wpAnyH_take (i := 12) (oi := { dst := some 156, op := Go.Op.move (Go.Operand.tmp 3), type := 3, pos := "term.go:519", after := #[], guard := none }) (v := ?_) rfl (by kernel_rfl) (by kernel_rfl) (by kernel_rfl) (fun _ _ _ h => h) (Or.inl ⟨by rfl, ?_⟩) (by assumption) ?_; rotate_left
      · (intro w hSw; (try dsimp only at hSw); go_simp; first | done | with_reducible rfl)
      (try simp only [Act.put, List.setIfInBounds_toArray, List.set_cons_zero, List.set_cons_succ])
      refine wpAnyH_ready (rs := [13]) (by kernel_rfl) (by simp) ?_; refine AllReadyH.cons (o := { dst := some 157, op := Go.Op.call { callee := Go.Callee.value (Go.Operand.func 159), args := #[Go.Operand.tmp 144, Go.Operand.tmp 155, Go.Operand.tmp 156], argTypes := #[139, 42, 3] }, type := 4, pos := "term.go:519", after := #[{ on := 0, ground := Go.Ground.data }, { on := 11, ground := Go.Ground.data }, { on := 12, ground := Go.Ground.data }], guard := none }) rfl (fun K hK => ?_) AllReadyH.nil; go_simp
      (go_at_call 159; try rw [← HTX.out]; refine (HP2.out.drewN.add 3 tx a kk false HR.out HN8.out).mono ?_; rintro e w3 ⟨rfl, hp, hkp⟩; have HP3 := Aside0.mk hp; have HX3 := Aside0.mk ((hkp _ (Nat.le_refl _) (Array.getElem?_eq_some_iff.1 HX2.out).1).trans HX2.out); have HZ3 := Aside0.mk (show w3.cell? ⟨W.heap.size, 0, none⟩ = some (.pointer (some ⟨g, 0, none⟩)) from (q4 HX3.out 0).trans rfl); clear hp hkp)
      try go_wp2_with fail
      refine hK.out _ _ ?_ (fun hHeld => ?_)
      · (try dsimp only); (go_split_ands; first | exact ⟨z0, p0, p1⟩ | exact ⟨HZ3.out, HP3.out.cells.1, HP3.out.cells.2.1⟩ | (refine ⟨?_, ?_, ?_⟩ <;> assumption) | assumption)
      clear hK K
      (try simp only [Act.put, List.setIfInBounds_toArray, List.set_cons_zero, List.set_cons_succ])
      refine wpAnyH_take (i := 14) (oi := { dst := some 158, op := Go.Op.move (Go.Operand.tmp 157), type := 4, pos := "term.go:519", after := #[{ on := 13, ground := Go.Ground.data }, { on := 13, ground := Go.Ground.chain }], guard := none }) (v := ?_) rfl (by kernel_rfl) (by kernel_rfl) (by kernel_rfl) (fun _ _ _ h => h) (Or.inl ⟨by rfl, ?_⟩) (by assumption) ?_; rotate_left
      · (intro w hSw; (try dsimp only at hSw); go_simp; first | done | with_reducible rfl)
      (try simp only [Act.put, List.setIfInBounds_toArray, List.set_cons_zero, List.set_cons_succ])
      refine wpAnyH_take (i := 15) (oi := { dst := some 159, op := Go.Op.load 139 (Go.Operand.tmp 1), type := 139, pos := "term.go:519", after := #[{ on := 14, ground := Go.Ground.guard }], guard := some (14, true) }) (v := undef) rfl (by kernel_rfl) (by kernel_rfl) (by kernel_rfl) (fun _ _ _ h => h) (Or.inr ⟨by rfl, rfl⟩) (by assumption) ?_
      (try simp only [Act.put, List.setIfInBounds_toArray, List.set_cons_zero, List.set_cons_succ])
      refine wpAnyH_take (i := 16) (oi := { dst := some 160, op := Go.Op.call { callee := Go.Callee.value (Go.Operand.func 161), args := #[Go.Operand.tmp 159], argTypes := #[139] }, type := 4, pos := "term.go:519", after := #[{ on := 15, ground := Go.Ground.data }, { on := 14, ground := Go.Ground.chain }, { on := 14, ground := Go.Ground.guard }], guard := some (14, true) }) (v := undef) rfl (by kernel_rfl) (by kernel_rfl) (by kernel_rfl) (fun _ _ _ h => h) (Or.inr ⟨by rfl, rfl⟩) (by assumption) ?_
      (try simp only [Act.put, List.setIfInBounds_toArray, List.set_cons_zero, List.set_cons_succ])
      refine wpAnyH_take (i := 17) (oi := { dst := some 161, op := Go.Op.pick (Go.Operand.tmp 158) (Go.Operand.tmp 160) (Go.Operand.const (Go.Value.bool false)), type := 4, pos := "term.go:519", after := #[{ on := 14, ground := Go.Ground.data }, { on := 16, ground := Go.Ground.data }], guard := none }) (v := ?_) rfl (by kernel_rfl) (by kernel_rfl) (by kernel_rfl) (fun _ _ _ h => h) (Or.inl ⟨by rfl, ?_⟩) (by assumption) ?_; rotate_left
      · (intro w hSw; (try dsimp only at hSw); go_simp; first | done | with_reducible rfl)
      (try simp only [Act.put, List.setIfInBounds_toArray, List.set_cons_zero, List.set_cons_succ])
      refine wpAnyH_take (i := 18) (oi := { dst := some 2, op := Go.Op.assign (Go.Operand.tmp 161), type := 4, pos := "term.go:519", after := #[{ on := 17, ground := Go.Ground.data }, { on := 16, ground := Go.Ground.chain }, { on := 0, ground := Go.Ground.phase }, { on := 1, ground := Go.Ground.phase }, { on := 2, ground := Go.Ground.phase }, { on := 3, ground := Go.Ground.phase }, { on := 4, ground := Go.Ground.phase }, { on := 5, ground := Go.Ground.phase }, { on := 6, ground := Go.Ground.phase }, { on := 7, ground := Go.Ground.phase }, { on := 8, ground := Go.Ground.phase }, { on := 9, ground := Go.Ground.phase }, { on := 10, ground := Go.Ground.phase }, { on := 11, ground := Go.Ground.phase }, { on := 12, ground := Go.Ground.phase }, { on := 13, ground := Go.Ground.phase }, { on := 14, ground := Go.Ground.phase }, { on := 15, ground := Go.Ground.phase }, { on := 16, ground := Go.Ground.phase }, { on := 17, ground := Go.Ground.phase }], guard := none }) (v := ?_) rfl (by kernel_rfl) (by kernel_rfl) (by kernel_rfl) (fun _ _ _ h => h) (Or.inl ⟨by rfl, ?_⟩) (by assumption) ?_; rotate_left
      · (intro w hSw; (try dsimp only at hSw); go_simp; first | done | with_reducible rfl)
      (try simp only [Act.put, List.setIfInBounds_toArray, List.set_cons_zero, List.set_cons_succ])
      refine wpAnyH_done (by kernel_rfl) ?_ _
      go_wp2
      go_ret; rw [HRR.out]; exact ⟨by simp, by have := HP3.out; simpa using this⟩
    | true =>
      cases on with
      | true =>
        go_region_held3 (fun W' => W'.cell? ⟨W.heap.size, 0, none⟩ = some (.pointer (some ⟨g, 0, none⟩)) ∧ W'.cell? ⟨g, 0, none⟩ = some (.string s) ∧ W'.cell? ⟨g, 1, none⟩ = some (.int .i64 a2))
          (first
            | exact ⟨z0, p0, p1⟩
            | exact ⟨HZ4.out, HP4.out.cells.1, HP4.out.cells.2.1⟩
            | exact ⟨HZ3.out, HP3.out.cells.1, HP3.out.cells.2.1⟩
            | (go_split_ands; exact ⟨by assumption, by assumption, by assumption⟩)
            | fail)
          (first
            | (go_at_call 159; try rw [← HTX.out]; refine (HP2.out.drewN.add 3 tx a kk true HR.out HN8.out).mono ?_; rintro e w3 ⟨rfl, hp, hkp⟩; have HP3 := Aside0.mk hp; have HX3 := Aside0.mk ((hkp _ (Nat.le_refl _) (Array.getElem?_eq_some_iff.1 HX2.out).1).trans HX2.out); have HZ3 := Aside0.mk (show w3.cell? ⟨W.heap.size, 0, none⟩ = some (.pointer (some ⟨g, 0, none⟩)) from (q4 HX3.out 0).trans rfl); clear hp hkp)
            | (go_at_call 161; have hap := HP3.out.apart HS.out; rw [← HON.out] at hap; refine hap.mono ?_; clear hap; rintro e w4 ⟨rfl, hp, hg⟩; have HP4 := Aside0.mk hp; have HZ4 := Aside0.mk (show w4.cell? ⟨W.heap.size, 0, none⟩ = some (.pointer (some ⟨g, 0, none⟩)) from (q4 ((hg.block _ (Array.getElem?_eq_some_iff.1 HX3.out).1 (fun e => by injection e with e; omega)).trans HX3.out) 0).trans rfl); clear hp hg)
            | fail)
        go_wp2
        go_ret; rw [HRR.out]; exact ⟨by simp, by have := HP4.out; simpa using this⟩
      | false =>
        go_region_held3 (fun W' => W'.cell? ⟨W.heap.size, 0, none⟩ = some (.pointer (some ⟨g, 0, none⟩)) ∧ W'.cell? ⟨g, 0, none⟩ = some (.string s) ∧ W'.cell? ⟨g, 1, none⟩ = some (.int .i64 a2))
          (first
            | exact ⟨z0, p0, p1⟩
            | exact ⟨HZ4.out, HP4.out.cells.1, HP4.out.cells.2.1⟩
            | exact ⟨HZ3.out, HP3.out.cells.1, HP3.out.cells.2.1⟩
            | (go_split_ands; exact ⟨by assumption, by assumption, by assumption⟩)
            | fail)
          (first
            | (go_at_call 159; try rw [← HTX.out]; refine (HP2.out.drewN.add 3 tx a kk true HR.out HN8.out).mono ?_; rintro e w3 ⟨rfl, hp, hkp⟩; have HP3 := Aside0.mk hp; have HX3 := Aside0.mk ((hkp _ (Nat.le_refl _) (Array.getElem?_eq_some_iff.1 HX2.out).1).trans HX2.out); have HZ3 := Aside0.mk (show w3.cell? ⟨W.heap.size, 0, none⟩ = some (.pointer (some ⟨g, 0, none⟩)) from (q4 HX3.out 0).trans rfl); clear hp hkp)
            | (go_at_call 161; have hap := HP3.out.apart HS.out; rw [← HON.out] at hap; refine hap.mono ?_; clear hap; rintro e w4 ⟨rfl, hp, hg⟩; have HP4 := Aside0.mk hp; have HZ4 := Aside0.mk (show w4.cell? ⟨W.heap.size, 0, none⟩ = some (.pointer (some ⟨g, 0, none⟩)) from (q4 ((hg.block _ (Array.getElem?_eq_some_iff.1 HX3.out).1 (fun e => by injection e with e; omega)).trans HX3.out) 0).trans rfl); clear hp hg)
            | fail)
        go_wp2
        go_ret; rw [HRR.out]; exact ⟨by simp, by have := HP4.out; simpa using this⟩
end Go.Proofs.Ytjhjhhibbmligaa.TE
end
section
namespace Go.Proofs.Ytjhjhhibbmligaa.TE
open Go.RowKit Go.Shelf Go.Proofs.YtjhjhhibbmligaaW.PrintWords Go.Proofs.YtjhjhhibbmligaaW.PrintLast Go.Proofs.YtjhjhhibbmligaaW.PrintMore Go.Proofs.Ytjhjhhibbmligaa.Evs
set_option linter.unusedVariables false
set_option linter.unusedSimpArgs false
end Go.Proofs.Ytjhjhhibbmligaa.TE
namespace Go.Proofs.Ytjhjhhibbmligaa.TE
open Go.RowKit Go.Shelf Go.Proofs.YtjhjhhibbmligaaW.PrintWords Go.Proofs.YtjhjhhibbmligaaW.PrintLast Go.Proofs.YtjhjhhibbmligaaW.PrintMore Go.Proofs.Ytjhjhhibbmligaa.Evs
set_option linter.unusedVariables false
set_option linter.unusedSimpArgs false
inductive Flat : List Tm → List Value → Prop
  | nil : Flat [] []
  | cons (k : Int) (t : ByteArray) (A : Option Addr) (c : Nat) (r : List Tm) (cs : List Value) : Flat r cs → Flat (⟨k, t, []⟩ :: r) (.int .i64 k :: .string t :: .slice A 0 c :: cs)
theorem Flat.len {r : List Tm} {cs : List Value} (h : Flat r cs) : cs.length = r.length * 3 := by
  induction h with
  | nil => rfl
  | cons k t A c r cs h ih => simp [ih]; omega
theorem Flat.one {r : List Tm} {cs : List Value} (h : Flat r cs) : ∀ u ∈ cs, u.oneCell' = true := by
  induction h with
  | nil => simp
  | cons k t A c r cs h ih =>
    intro u hu; simp only [List.mem_cons] at hu
    rcases hu with rfl | rfl | rfl | hu
    · rfl
    · rfl
    · rfl
    · exact ih u hu
theorem flat_of_reps {W : World} {base : Nat} {ok : Nat → Prop} : ∀ (r : List Tm) (cs : List Value), (∀ x ∈ r, x.f2 = []) → Reps (k42.M W base ok) 3 r cs → Flat r cs
  | [], cs, _, h => by
    have : cs = [] := List.length_eq_zero_iff.1 (by rw [h.1]; simp); subst this; exact .nil
  | x :: r, cs, hk, h => by
    have h0 := h.2 0 x rfl; obtain ⟨v2, he, hR⟩ := k42_openM h0; have hl := h.1; obtain ⟨k, t, f2⟩ := x; have hf : f2 = [] := hk _ List.mem_cons_self; subst hf; simp only [Nat.zero_mul, List.drop_zero] at he
    have hcs : cs = [.int .i64 k, .string t, v2] ++ cs.drop 3 := by rw [← he, List.take_append_drop]
    have hv : ∃ A c, v2 = .slice A 0 c := by
      obtain ⟨A, c, hv, _⟩ := Kd.R_reads hR; exact ⟨A, c, hv⟩
    obtain ⟨A, c, rfl⟩ := hv; rw [hcs]; show Flat _ (.int .i64 k :: .string t :: .slice A 0 c :: cs.drop 3); refine .cons k t A c r _ (flat_of_reps (W := W) (base := base) (ok := ok) r (cs.drop 3) (fun y hy => hk y (List.mem_cons_of_mem _ hy)) ⟨by rw [List.length_drop, hl]; simp; omega, fun j p hp => ?_⟩); have := h.2 (j + 1) p (by simpa using hp); rw [List.drop_drop]
    rwa [show 3 + j * 3 = (j + 1) * 3 by omega]
end Go.Proofs.Ytjhjhhibbmligaa.TE
end
section
namespace Go.Proofs.Ytjhjhhibbmligaa.TE
open Go.RowKit Go.Shelf Go.Proofs.YtjhjhhibbmligaaW.PrintWords Go.Proofs.YtjhjhhibbmligaaW.PrintLast Go.Proofs.YtjhjhhibbmligaaW.PrintMore Go.Proofs.Ytjhjhhibbmligaa.Evs
set_option linter.unusedVariables false
set_option linter.unusedSimpArgs false
theorem KeepT.below {w W : World} (h : Below w.heap.size w W) : KeepT w W := fun k cs t fr _ _ hk => (h.block k (Array.getElem?_eq_some_iff.1 hk).1).trans hk
theorem own_below {w W : World} {B n : Nat} {e : TypeId} {v : Value} {xs : List Value} (ho : w.ownsRow B e 1 v n xs) (h : Below w.heap.size w W) : W.ownsRow B e 1 v n xs := by
  obtain ⟨h1, h2⟩ := ho; refine ⟨h1, ?_⟩
  rcases h2 with h2 | ⟨b, cap, cur, rfl, hb, hh, r⟩
  · exact .inl h2
  · exact .inr ⟨b, cap, cur, rfl, hb, (h.block b (Array.getElem?_eq_some_iff.1 hh).1).trans hh, r⟩
theorem IsB.below {B b : Nat} {bs : List Value} {w W : World} (h : IsB B b bs w) (hb : Below w.heap.size w W) : IsB B b bs W := by
  rcases h with ⟨h1, v, h2, h3, h4⟩ | ⟨h1, v, h2, h3, h4⟩
  · exact .inl ⟨h1, v, (hb.block b (Array.getElem?_eq_some_iff.1 h2).1).trans h2, own_below h3 hb, h4⟩
  · exact .inr ⟨h1, v, (hb.block b (Array.getElem?_eq_some_iff.1 h2).1).trans h2, own_below h3 hb, h4⟩
theorem IsB.alloc {B b : Nat} {bs : List Value} {w : World} (h : IsB B b bs w) (o : Obj) : IsB B b bs (w.alloc o) := by
  rcases h with ⟨h1, v, h2, h3, h4⟩ | ⟨h1, v, h2, h3, h4⟩
  · exact .inl ⟨h1, v, (Below.heap_alloc w o b (Array.getElem?_eq_some_iff.1 h2).1).trans h2, h3.alloc o, h4⟩
  · exact .inr ⟨h1, v, (Below.heap_alloc w o b (Array.getElem?_eq_some_iff.1 h2).1).trans h2, h3.alloc o, h4⟩
end Go.Proofs.Ytjhjhhibbmligaa.TE
end
section
namespace Go.Proofs.Ytjhjhhibbmligaa.TE
open Go.RowKit Go.Shelf Go.Proofs.YtjhjhhibbmligaaW.PrintWords Go.Proofs.YtjhjhhibbmligaaW.PrintLast Go.Proofs.YtjhjhhibbmligaaW.PrintMore Go.Proofs.Ytjhjhhibbmligaa.Evs
set_option linter.unusedVariables false
set_option linter.unusedSimpArgs false
end Go.Proofs.Ytjhjhhibbmligaa.TE
end
section
namespace Go.Proofs.Ytjhjhhibbmligaa.TE
open Go.RowKit Go.Shelf Go.Proofs.YtjhjhhibbmligaaW.PrintWords Go.Proofs.YtjhjhhibbmligaaW.PrintLast Go.Proofs.YtjhjhhibbmligaaW.PrintMore Go.Proofs.Ytjhjhhibbmligaa.Evs
set_option linter.unusedVariables false
set_option linter.unusedSimpArgs false
theorem blk3 {W : World} {b : Nat} {x0 y0 z0 x y z : Value} {t : TypeId} (h : W.heap[b]? = some (.cells #[x0, y0, z0] t (0, 0))) : (((W.setCell ⟨b, 0, none⟩ x).setCell ⟨b, 1, none⟩ y).setCell ⟨b, 2, none⟩ z).heap[b]? = some (.cells #[x, y, z] t (0, 0)) := by
  have := q21 (q21 (q21 h 0 x) 1 y) 2 z
  simpa using this
end Go.Proofs.Ytjhjhhibbmligaa.TE
end
section
namespace Go.Proofs.Ytjhjhhibbmligaa.TE
open Go.RowKit Go.Shelf Go.Proofs.YtjhjhhibbmligaaW.PrintWords Go.Proofs.YtjhjhhibbmligaaW.PrintLast Go.Proofs.YtjhjhhibbmligaaW.PrintMore Go.Proofs.Ytjhjhhibbmligaa.Evs
set_option linter.unusedVariables false
set_option linter.unusedSimpArgs false
section
attribute [local go_sem] Oper.semAt_some
end
end Go.Proofs.Ytjhjhhibbmligaa.TE
end
