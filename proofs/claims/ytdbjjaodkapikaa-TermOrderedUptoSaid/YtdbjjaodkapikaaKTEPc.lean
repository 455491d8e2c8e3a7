/- Packed: the parser's call and quotation. -/
import Derived.Test.YtdbjjaodkapikaaKTEPb
import Derived.Lib.BufferMore
import Derived.Deep.LoopGhost
namespace Go.Proofs.Ytdbjjaodkapikaa.TE
open Go.RowKit Go.Shelf Go.Proofs.YtdbjjaodkapikaaW.PrintWords Go.Proofs.YtdbjjaodkapikaaW.PrintLast Go.Proofs.YtdbjjaodkapikaaW.PrintMore Go.Proofs.Ytdbjjaodkapikaa.Evs
set_option linter.unusedVariables false
set_option linter.unusedSimpArgs false
theorem own_fr {w w' : World} {base n e z : Nat} {v : Value} {xs : List Value} {S : Nat → Prop} (h : w.ownsRow base e z v n xs) (hg : Fr w w' S) (hne : ∀ b, v.ownBlock = some b → ¬ S b) : w'.ownsRow base e z v n xs := by
  obtain ⟨h1, h2⟩ := h; refine ⟨h1, ?_⟩
  rcases h2 with h2 | ⟨b, cap, cur, rfl, hbb, hh, r⟩
  · exact .inl h2
  · exact .inr ⟨b, cap, cur, rfl, hbb, (hg.block b (Array.getElem?_eq_some_iff.1 hh).1 (hne b rfl)).trans hh, r⟩
theorem fr_grown {A B C : World} {g : Nat} (h : Fr A B (fun i => i = g)) (k : B.grownBy C (some g)) : Fr A C (fun i => i = g) := h.trans (Fr.of_grown k (fun i e => by cases e; rfl))
theorem fr_drewN {A B : World} {S : Nat → Prop} {n : Nat} (h : Fr A B S) : Fr A (B.drewN n) S := ⟨h.os, h.tape, h.output, h.size, h.block⟩
theorem fr_drew {A B : World} {S : Nat → Prop} (h : Fr A B S) : Fr A B.drew S := ⟨h.os, h.tape, h.output, h.size, h.block⟩
theorem fr_below {A B C : World} {S : Nat → Prop} (h : Fr A B S) (k : Below B.heap.size B C) : Fr A C S := h.trans (Fr.mk k.os k.tape k.output k.size (fun i hi _ => k.block i hi))
theorem fr_new {A B : World} {S : Nat → Prop} (h : Fr A B S) (o : Obj) : Fr A (B.alloc o) S := fr_below h ((Below.refl _ _).alloc (Nat.le_refl _) _)
theorem Pz.newer {W W' : World} {g : Nat} {s : ByteArray} {at_ fault : Int} {vl vs : Value} (h : Pz W g s at_ fault vl vs) (hb : Below W.heap.size W W') : Pz W' g s at_ fault vl vs := (hb.block g (Array.getElem?_eq_some_iff.1 h).1).trans h
set_option maxRecDepth 100000 in
set_option maxHeartbeats 4000000 in
theorem call1.calls (g base : Nat) (s : ByteArray) (a a1 a2 : Nat) (fault : Int) (av : Option Addr) (nv cv : Nat) (vs : Value) (n : Nat) (ys : List Value) (kk : Nat) (tx : ByteArray) (W : World) (h : Pz W g s a fault (.slice av nv cv) vs) (ho : W.ownsRow base 122 4 vs n ys) (hb : base ≤ g) (hn8 : n ≤ 1099511627776)
    (hs : s.size ≤ 1099511627776) (ha : a < s.size) (h1 : a1 = endF 8 s (a + 1)) (hl : a1 < s.size) (hcl : clsB 1 (s[a1]'hl) = true) (h2 : a2 = endF 4 s a1) (htx : tx = s.extract a1 a2) (hr : term_right.f kk 8 tx [] = some true) (hon : onB s a2 = false) :
    Calls Try.prog 94 #[.pointer (some ⟨g, 0, none⟩)] W fun e W' => e = .returned (.bool true) ∧ ∃ vs', Pz W' g s a2 fault (.slice none 0 0) vs' ∧ W'.ownsRow base 122 4 vs' (n + 1) (ys ++ [.slice av nv cv, .int .i64 8, .string tx, .slice none 0 0]) ∧ (∀ b, vs'.ownBlock = some b → vs.ownBlock = some b ∨ W.heap.size ≤ b) ∧ Fr W W' (fun i => i = g ∨ some i = vs.ownBlock) := by
  have hga : some g ≠ vs.ownBlock := own_neG ho (by decide) h; obtain ⟨p0, p1, p2, p3, p4⟩ := h.cells; have pf1 := h.fz 1
  have hp1 : Pz (W.setCell ⟨g, 1, none⟩ (.int .i64 ((a : Int) + 1))) g s ((a + 1 : Nat) : Int) fault (.slice av nv cv) vs := by have := h.setAt ((a : Int) + 1); simpa using this
  have hf1 : Fr W (W.setCell ⟨g, 1, none⟩ (.int .i64 ((a : Int) + 1))) (fun i => i = g) := Fr.of_grown (grown_set W g 1 _) (fun i e => by cases e; rfl); obtain ⟨W1, hW1⟩ : ∃ W1, W.setCell ⟨g, 1, none⟩ (.int .i64 ((a : Int) + 1)) = W1 := ⟨_, rfl⟩; rw [hW1] at hp1 hf1; have HW1 := Aside0.mk hW1
  have hw4 : IntKind.i64.wrap ((a : Int) + 1) = (a : Int) + 1 := by rw [i64_w]; rw [wrap64_id (by omega) (by omega)]
  have ha2 : a2 ≤ s.size := by rw [h2]; exact endF_le 4 s a1 (by omega)
  have HP1 := Aside0.mk hp1; have HF1 := Aside0.mk hf1; have HO := Aside0.mk ho; have HA := Aside0.mk ha; have H1 := Aside0.mk h1; have HS := Aside0.mk hs; have H2 := Aside0.mk h2; have HTX := Aside0.mk htx; have HR := Aside0.mk hr; have HON := Aside0.mk hon; have HN8 := Aside0.mk hn8; have ha0 : (0 : Int) ≤ (a1 : Int) := Int.natCast_nonneg _
  have ha1 : (a1 : Int) < (s.size : Int) := by omega
  have hne : ((a1 : Int) == (s.size : Int)) = false := by simp; omega
  obtain ⟨b, hb1⟩ : ∃ b, b = s[a1]'hl := ⟨_, rfl⟩
  have hbt : ((s[a1]'hl).toNat : Int) = (b.toNat : Int) := by rw [hb1]
  have hcall := fun w => is_calls b 1 w
  rw [show clsB 1 b = true by rw [hb1]; exact hcl] at hcall; have HCALL := Aside0.mk hcall; clear h ho hn8 hW1 hp1 hf1 ha hs h1 h2 htx hr hon hcall hcl p0 p2 p3 p4
  go_enter Try.func94, Try.ntmps94
  go_wp2_with fail
  rw [HW1.out]; clear p1 pf1 hw4; refine (longest.calls g s (a + 1) 8 fault (.slice av nv cv) vs W1 HP1.out HS.out HA.out).mono ?_; rintro e w1 ⟨rfl, hp, hg⟩; rw [← H1.out] at hp; obtain ⟨p0, p1, p2, p3, p4⟩ := hp.cells; have HP2 := Aside0.mk hp; have HF2 := Aside0.mk (fr_grown HF1.out hg); clear hp hg p2 p3 p4
  go_wp2_with fail
  go_quiet (first | (go_at_call 87; exact Calls.quiet_of (HCALL.out _)))
  clear p0 p1
  go_wp2_with fail
  refine (longest.calls g s a1 4 fault (.slice av nv cv) vs _ HP2.out.drewN HS.out (Nat.le_of_lt (by assumption))).mono ?_; rintro e w2 ⟨rfl, hp, hg⟩; rw [← H2.out, ← HTX.out]; rw [← H2.out] at hp; have HP3 := Aside0.mk hp; have HF3 := Aside0.mk (fr_grown (fr_drewN HF2.out) hg); clear hp hg
  go_wp2_with fail
  have hn3 := World.alloc_heap_new w2 (.cells #[.int .i64 8, .string tx, .slice none 0 0] 42); have hb3 : Below w2.heap.size w2 (w2.alloc (.cells #[.int .i64 8, .string tx, .slice none 0 0] 42)) := (Below.refl _ _).alloc (Nat.le_refl _) _; obtain ⟨W3, hW3⟩ : ∃ W3, w2.alloc (.cells #[.int .i64 8, .string tx, .slice none 0 0] 42) = W3 := ⟨_, rfl⟩; rw [hW3] at hn3 hb3 ⊢; clear hW3; refine (term_right.calls kk 8 tx none 0 [] true W3 (Kd.C_nil k42 W3) (Nat.le_refl _) HR.out).mono ?_; rintro e w3 ⟨rfl, hb4⟩; have hx3 := (hb4.block _ (Array.getElem?_eq_some_iff.1 hn3).1).trans hn3; have x0 : w3.cell? ⟨w2.heap.size, 0, none⟩ = some (.int .i64 8) := (q9 hx3 0).trans rfl; have x1 : w3.cell? ⟨w2.heap.size, 1, none⟩ = some (.string tx) := (q9 hx3 1).trans rfl; have x2 : w3.cell? ⟨w2.heap.size, 2, none⟩ = some (.slice none 0 0) := (q9 hx3 2).trans rfl; have HP4 := Aside0.mk ((HP3.out.newer hb3).newer hb4); have HF4 := Aside0.mk (fr_below (fr_below HF3.out hb3) hb4); have HX3 := Aside0.mk hx3; clear hn3 hb3 hb4 hx3
  go_wp2_with fail
  clear x0 x1 x2; have hap := apart.calls g s a2 fault (.slice av nv cv) vs w3 HP4.out HS.out; rw [HON.out] at hap; refine hap.mono ?_; clear hap; rintro e w4 ⟨rfl, hp, hg⟩; have hp : Pz w4 g s a2 fault (.slice av nv cv) vs := hp
  have hx4 := grown_blk hg HX3.out (fun e => by
    have h1 := (Array.getElem?_eq_some_iff.1 HP3.out).1
    omega)
  have x0 : w4.cell? ⟨w2.heap.size, 0, none⟩ = some (.int .i64 8) := (q9 hx4 0).trans rfl; have x1 : w4.cell? ⟨w2.heap.size, 1, none⟩ = some (.string tx) := (q9 hx4 1).trans rfl; have x2 : w4.cell? ⟨w2.heap.size, 2, none⟩ = some (.slice none 0 0) := (q9 hx4 2).trans rfl; have HP5 := Aside0.mk hp; have HF5 := Aside0.mk (fr_grown HF4.out hg); clear hp hg hx4
  go_wp2_with fail
  refine (begin.calls g base s a2 fault av nv cv vs n ys 8 tx none 0 0 w4 HP5.out (own_fr HO.out HF5.out (fun b hb e => hga (by rw [hb, e]))) hb HN8.out).mono ?_; rintro e w5 ⟨rfl, vs', hp, ho, hn, hf⟩; have HP6 := Aside0.mk hp; have HO6 := Aside0.mk ho; have HN6 := Aside0.mk hn; have HF6 := Aside0.mk hf; clear hp ho hn hf
  go_wp2_with fail
  go_ret; exact ⟨rfl, vs', HP6.out, HO6.out, fun b hb => (HN6.out b hb).imp id (Nat.le_trans HF5.out.size), (HF5.out.mono (fun i _ e => .inl e)).trans HF6.out⟩
end Go.Proofs.Ytdbjjaodkapikaa.TE
namespace Go.Proofs.Ytdbjjaodkapikaa.TE
open Go.RowKit Go.Shelf Go.Proofs.YtdbjjaodkapikaaW.PrintWords Go.Proofs.YtdbjjaodkapikaaW.PrintLast Go.Proofs.YtdbjjaodkapikaaW.PrintMore Go.Proofs.Ytdbjjaodkapikaa.Evs
set_option linter.unusedVariables false
set_option linter.unusedSimpArgs false
theorem info_byte : (Try.prog.info? 5).map (fun i => (i.zero, i.size, i.bytes)) = some (some (.int .u8 0), 1, 1) := by kernel_rfl
def between (s : ByteArray) (a n : Nat) : List UInt8 := (s.data.toList.drop a).take n
theorem between_len (s : ByteArray) (a n : Nat) (h : a + n ≤ s.size) : (between s a n).length = n := by
  unfold between; rw [List.length_take, List.length_drop, ← size_len]; omega
theorem between_step (s : ByteArray) (a n : Nat) (h : a + n < s.size) : between s a (n + 1) = between s a n ++ [s[a + n]'h] := by
  unfold between
  have hl : a + n < s.data.toList.length := by rw [← size_len]; exact h
  have he : s.data.toList[a + n]'hl = s[a + n]'h := by simp; rfl
  rw [List.take_succ_eq_append_getElem (by rw [List.length_drop]; omega)]; rw [List.getElem_drop, he]
structure Plainly (s : ByteArray) (a e : Nat) : Prop where
  lt : a < e
  le : e < s.size
  shut : ∀ h h', s[e]'h = s[a]'h'
  between : ∀ j h h', a < j → j < e → 32 ≤ (s[j]'h).toNat ∧ (s[j]'h).toNat ≤ 126 ∧ (s[j]'h).toNat ≠ 92 ∧ s[j]'h ≠ s[a]'h'
theorem cell_new1 (w : World) (v : Value) (t : TypeId) : ∀ j u, ([v] : List Value)[j]? = some u → (w.alloc (.cells #[v] t)).cell? ((⟨w.heap.size, 0, none⟩ : Addr).add j) = some u := by
  intro j u hj; rw [add_plain]; refine (q9 (World.alloc_heap_new w _) j).trans ?_
  match j, hj with
  | 0, hj => exact hj
theorem fr_row {A B C : World} {S : Nat → Prop} {row : Option Nat} (h : Fr A B S) (k : B.grownBy C row) (hr : ∀ b, row = some b → A.heap.size ≤ b) : Fr A C S :=
  ⟨k.os.trans h.os, k.tape.trans h.tape, k.output.trans h.output, Nat.le_trans h.size k.size, fun i hi hn => (k.block i (Nat.lt_of_lt_of_le hi h.size) (fun e => by have := hr i e.symm; omega)).trans (h.block i hi hn)⟩
theorem own_drewN {w : World} {base n e z k : Nat} {v : Value} {xs : List Value} (h : w.ownsRow base e z v n xs) : (w.drewN k).ownsRow base e z v n xs := h
theorem byteCells_snoc1 (l : List UInt8) (b : UInt8) : Lib.byteCells (l ++ [b]) = Lib.byteCells l ++ [.int .u8 (b.toNat : Int)] := by simp [Lib.byteCells]
set_option maxRecDepth 100000 in
set_option maxHeartbeats 4000000 in
theorem quotation1.calls (g : Nat) (s : ByteArray) (a e : Nat) (fault : Int) (vl vs : Value) (W : World) (h : Pz W g s a fault vl vs) (hs : s.size ≤ 1099511627776) (hq : Plainly s a e) :
    Calls Try.prog 89 #[.pointer (some ⟨g, 0, none⟩)] W fun x W' => ∃ vo, x = .returned (.tuple #[vo, .bool true]) ∧ Pz W' g s ((e + 1 : Nat) : Int) fault vl vs ∧ W'.ownsRow W.heap.size 5 1 vo (e - (a + 1)) (Lib.byteCells (between s (a + 1) (e - (a + 1)))) ∧ Fr W W' (fun i => i = g) := by
  obtain ⟨p0, p1, p2, p3, p4⟩ := h.cells; have pf1 := h.fz 1; have hae := hq.lt; have hes := hq.le
  have has : a < s.size := by omega
  obtain ⟨q0, hq0⟩ : ∃ q0, q0 = s[a]'has := ⟨_, rfl⟩
  have hqt : ((s[a]'has).toNat : Int) = (q0.toNat : Int) := by rw [hq0]
  have hw4 : IntKind.i64.wrap ((a : Int) + 1) = (a : Int) + 1 := by rw [i64_w]; rw [wrap64_id (by omega) (by omega)]
  have ha0 : (0 : Int) ≤ (a : Int) := Int.natCast_nonneg _
  have ha1 : (a : Int) < (s.size : Int) := by omega
  have H := Aside0.mk h; have HQ := Aside0.mk hq; have HQ0 := Aside0.mk hq0; have HS := Aside0.mk hs; have HL := Aside0.mk hae; have HE := Aside0.mk hes; clear h hq hq0 hs hae hes p2 p3 p4; obtain ⟨i0, hi, hz0, hz1, hz2⟩ := info_parts info_byte
  go_enter Try.func89, Try.ntmps89
  go_wp2_with fail
  go_quiet (fail)
  go_wp2_with fail
  clear p0 p1 pf1 hw4
  go_loopg [5] (s.size + 1) (fun gk v5 wr_ => ∃ n : Nat, a + 1 + n ≤ e ∧ s.size - (a + 1 + n) < gk ∧ Aside0 (Pz wr_ g s ((a + 1 + n : Nat) : Int) fault vl vs) ∧ Aside0 (wr_.ownsRow W.heap.size 5 1 v5 n (Lib.byteCells (between s (a + 1) n))) ∧ Aside0 (Fr W wr_ (fun i => i = g)))
  case atStart => exact ⟨0, by have := HL.out; omega, by omega, ⟨by have := H.out.drewN (n := nq) |>.setAt ((a : Int) + 1); simpa using this⟩, ⟨by simpa [between, Lib.byteCells] using World.ownsRow_nil _ _ _ _⟩, ⟨fr_grown (fr_drewN (Fr.refl W _)) (grown_set _ g 1 _)⟩⟩
  case round =>
    obtain ⟨n, hne, hgk, HP, HO, HF⟩ := hrel; obtain ⟨g', rfl⟩ : ∃ g', gk = g' + 1 := ⟨gk - 1, by omega⟩; obtain ⟨q, hqd⟩ : ∃ q, q = a + 1 + n := ⟨_, rfl⟩; rw [← hqd] at HP hne hgk; have HQD := Aside0.mk hqd; obtain ⟨c0, c1, c2, c3, c4⟩ := HP.out.cells; have f1 := HP.out.fz 1; have hgl : g < wr.heap.size := (Array.getElem?_eq_some_iff.1 HP.out).1; have hq0 : (0 : Int) ≤ (q : Int) := Int.natCast_nonneg _; have hlt : q < s.size := Nat.lt_of_le_of_lt hne HE.out; have e1 : decide ((q : Int) < (s.size : Int)) = true := decide_eq_true (by omega)
    have hq1 : (q : Int) < (s.size : Int) := by omega
    have hw5 : IntKind.i64.wrap ((q : Int) + 1) = (q : Int) + 1 := by have := HS.out; rw [i64_w]; rw [wrap64_id (by omega) (by omega)]
    obtain ⟨b, hb⟩ : ∃ b, b = s[q]'hlt := ⟨_, rfl⟩
    have hbt : ((s[q]'hlt).toNat : Int) = (b.toNat : Int) := by rw [hb]
    have HB := Aside0.mk hb
    by_cases hend : q = e
    · have hbq : ((b.toNat : Int) == (q0.toNat : Int)) = true := by
        have : b = q0 := by rw [hb, HQ0.out]; subst hend; exact HQ.out.shut _ _
        rw [this]; simp
      have HEND := Aside0.mk hend; clear hb hend hqd
      go_wp2_with fail
      go_quiet (fail)
      go_wp2_with fail
      go_quiet (fail)
      go_wp2_with fail
      go_ret2
      have hq' := HQD.out; have he' := HEND.out
      obtain rfl : n = e - (a + 1) := by omega
      refine ⟨_, rfl, ?_, own_farG (own_drewN HO.out) g 1 _ (own_neG HO.out (by decide) HP.out), fr_grown (fr_drewN HF.out) (grown_set _ g 1 _)⟩
      have e5 : ((e + 1 : Nat) : Int) = (q : Int) + 1 := by omega
      rw [e5]; exact HP.out.drewN.setAt _
    · have hfacts := HQ.out.between q hlt (by have := HL.out; have := HE.out; omega) (by omega) (by omega); rw [← hb, ← HQ0.out] at hfacts; obtain ⟨hb32, hb126, hb92, hbq0⟩ := hfacts
      have hbq : ((b.toNat : Int) == (q0.toNat : Int)) = false := by
        have : b.toNat ≠ q0.toNat := fun e => hbq0 (UInt8.toNat_inj.1 e)
        simp; omega
      have e32 : decide ((b.toNat : Int) < 32) = false := decide_eq_false (by omega); have e126 : decide ((126 : Int) < (b.toNat : Int)) = false := decide_eq_false (by omega)
      have e92 : ((b.toNat : Int) == 92) = false := by simp; omega
      have hnext : q + 1 ≤ e := by omega
      have HNE := Aside0.mk hnext; clear hb hend hqd hb32 hb126 hb92 hbq0 hnext
      go_wp2_with fail
      go_quiet (fail)
      go_wp2_with fail
      go_quiet (fail)
      have hsz : W.heap.size ≤ wr.heap.size := HF.out.size
      have hn8 : n ≤ 1099511627776 := by have := HS.out; have := HQD.out; omega
      have HN8 := Aside0.mk hn8; have HSZ := Aside0.mk hsz; clear hn8 hsz
      go_wp2_with (at_builtin; refine wpList_append_own _ rfl _ _ 62 rfl W.heap.size 5 i0 (.int .u8 0) 1 1 Try.underlying62 hi hz0 hz1 hz2 rfl (by decide) _ _ _ rfl ((own_drewN HO.out).alloc _) ⟨wr.heap.size, 0, none⟩ 1 1 [.int .u8 (b.toNat : Int)] rfl rfl (cell_new1 _ _ _) (by simp [Value.oneCell']) (by have := HN8.out; simp only [maxLen]; omega) (by have := HN8.out; omega) (by have := HSZ.out; simp; omega) ?_; intro v' w5 hown5 hgrow5 _; have HOW5 := Aside0.mk hown5; have HFR5 := Aside0.mk (fr_row (fr_new (fr_drewN HF.out) _) hgrow5 (fun k hk => (HO.out.lt k hk).1)); have HPZ5 := Aside0.mk (Pz.grown (Pz.newer (HP.out.drewN) ((Below.refl _ _).alloc (Nat.le_refl _) _)) hgrow5 (own_neG HO.out (by decide) HP.out)); have d1 := HPZ5.out.cells.2.1; have df1 := HPZ5.out.fz 1; clear hown5 hgrow5)
      go_roundg g'
      case measure => have := HQD.out; have := HE.out; have := HNE.out; omega
      case rel =>
        have hqd' := HQD.out; refine ⟨n + 1, by have := HNE.out; omega, by omega, ⟨?_⟩, ⟨?_⟩, ⟨fr_grown HFR5.out (grown_set _ g 1 _)⟩⟩
        · have h5 := HPZ5.out.setAt ((q : Int) + 1)
          have e5 : ((a + 1 + (n + 1) : Nat) : Int) = (q : Int) + 1 := by omega
          rw [e5]; exact h5
        · rw [between_step s (a + 1) n (by omega), byteCells_snoc1]
          have e6 : s[a + 1 + n]'(by omega) = b := by rw [HB.out]; congr 1; exact hqd'.symm
          rw [e6]; exact own_farG HOW5.out g 1 _ (own_neG HOW5.out (by decide) HPZ5.out)
end Go.Proofs.Ytdbjjaodkapikaa.TE
