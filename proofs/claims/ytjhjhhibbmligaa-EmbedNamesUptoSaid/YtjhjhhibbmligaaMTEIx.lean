/- The kids of a node are asked one after the other. -/
import Derived.Test.YtjhjhhibbmligaaMTENd
import Derived.Test.YtjhjhhibbmligaaMTEPs3
import Derived.Deep.QuietTactic
import Derived.BigQuiet
import Derived.Deep.RegionHeld3
import Derived.Laws.StructEq
import Derived.Deep.CutRange
import Derived.Maps.AppendAt
import Derived.StillTailTactics
section
namespace Go.Proofs.Ytjhjhhibbmligaa.TE
open Go.RowKit Go.Shelf Go.Proofs.YtjhjhhibbmligaaW.PrintWords Go.Proofs.YtjhjhhibbmligaaW.PrintLast Go.Proofs.YtjhjhhibbmligaaW.PrintMore Go.Proofs.Ytjhjhhibbmligaa.Evs
set_option linter.unusedVariables false
set_option linter.unusedSimpArgs false
structure Ex (w0 : World) (g M NA NB : Nat) (T U : Nat → Tm) (ok : Nat → Prop) : Prop where
  he : w0.heap[g]? = some (.cells #[.map (some M)] 167 (0, 0))
  hM : M < w0.heap.size
  hg : g ≠ M
  hok : ∀ k, ok k → k ≠ M
  hA : NA ≤ 1048576
  hB : NB ≤ 1048576
def PL (w : World) (ok : Nat → Prop) (v : Value) (ts : List Tm) (num : Nat) (path : List Int) : Prop :=
  ∃ vs, w.ownsRow 0 100 1 v ts.length vs ∧ (∀ k, v.ownBlock = some k → ok k) ∧ NdL w ok vs ts num path
structure St (w0 : World) (M NA NB : Nat) (T U : Nat → Tm) (W : World) : Prop where
  fr : Fr w0 W (fun i => i = M)
  kn : Kn M NA NB T U W
theorem St.below {w0 : World} {M NA NB : Nat} {T U : Nat → Tm} {W W' : World} (h : St w0 M NA NB T U W) (hb : Below W.heap.size W W') : St w0 M NA NB T U W' := ⟨fr_below h.fr hb, h.kn.below hb⟩
theorem St.block {w0 : World} {M NA NB : Nat} {T U : Nat → Tm} {W : World} (h : St w0 M NA NB T U W) {k : Nat} {o : Obj} (hk : w0.heap[k]? = some o) (hn : k ≠ M) : W.heap[k]? = some o := (h.fr.block k (Array.getElem?_eq_some_iff.1 hk).1 hn).trans hk
def EmbC (w0 : World) (g M NA NB : Nat) (T U : Nat → Tm) (ok : Nat → Prop) (k : Nat) : Prop :=
  ∀ x y t u i j px py W, Nd w0 ok x t i px → Nd w0 ok y u j py → SubT T NA i t → SubT U NB j u → SizeOf.sizeOf t + SizeOf.sizeOf u ≤ k → St w0 M NA NB T U W →
    Calls Try.prog 96 #[.pointer (some ⟨g, 0, none⟩), x, y] W fun e W' => e = .returned (.bool (emb t u)) ∧ St w0 M NA NB T U W' ∧ Fr W W' (fun i => i = M)
def CplC (w0 : World) (g M NA NB : Nat) (T U : Nat → Tm) (ok : Nat → Prop) (k : Nat) : Prop :=
  ∀ x y t u i j px py W, Nd w0 ok x t i px → Nd w0 ok y u j py → SubT T NA i t → SubT U NB j u → SizeOf.sizeOf t + SizeOf.sizeOf u ≤ k → St w0 M NA NB T U W →
    Calls Try.prog 93 #[.pointer (some ⟨g, 0, none⟩), x, y] W fun e W' => e = .returned (.bool (cpl t u)) ∧ St w0 M NA NB T U W' ∧ Fr W W' (fun i => i = M)
def LisC (w0 : World) (g M NA NB : Nat) (T U : Nat → Tm) (ok : Nat → Prop) (k : Nat) : Prop :=
  ∀ va vb ts us i j px py W, PL w0 ok va ts i px → PL w0 ok vb us j py → SubL T NA i ts → SubL U NB j us → SizeOf.sizeOf ts + SizeOf.sizeOf us ≤ k → St w0 M NA NB T U W →
    Calls Try.prog 90 #[.pointer (some ⟨g, 0, none⟩), va, vb] W fun e W' => e = .returned (.bool (embL ts us)) ∧ St w0 M NA NB T U W' ∧ Fr W W' (fun i => i = M)
theorem sizeOf_f2 (t : Tm) : SizeOf.sizeOf t.f2 < SizeOf.sizeOf t := by cases t; simp; omega
set_option maxRecDepth 100000 in
set_option maxHeartbeats 4000000 in
theorem coupled_of {w0 : World} {g M NA NB : Nat} {T U : Nat → Tm} {ok : Nat → Prop} (E : Ex w0 g M NA NB T U ok) {k : Nat} (hL : LisC w0 g M NA NB T U ok k) : CplC w0 g M NA NB T U ok (k + 1) := by
  intro x y t u i j px py W hx hy hT hU hk hS; obtain ⟨bx, pvx, kvx, vsx, rfl, hbx, hhx, hpx, hpox, hkx, hkox, hnx⟩ := hx.at; obtain ⟨by_, pvy, kvy, vsy, rfl, hby, hhy, hpy, hpoy, hky, hkoy, hny⟩ := hy.at; have huN := Try.underlying105; have huC := Try.underlying103; have hcall := hL kvx kvy t.f2 u.f2 (i + 1) (j + 1) px py; have h1 := sizeOf_f2 t; have h2 := sizeOf_f2 u
  have hcall := fun W hS => hcall W ⟨vsx, hkx, hkox, hnx⟩ ⟨vsy, hky, hkoy, hny⟩ hT.2.2 hU.2.2 (by omega) hS
  have hX := hS.block hhx (E.hok _ hbx); have hY := hS.block hhy (E.hok _ hby); obtain ⟨n1, hn1⟩ : ∃ n1, n1 = clsN t.f0 t.f1 := ⟨_, rfl⟩; obtain ⟨n2, hn2⟩ : ∃ n2, n2 = clsN u.f0 u.f1 := ⟨_, rfl⟩; rw [← hn1] at hX; rw [← hn2] at hY; have x1 : W.cell? ⟨bx, 1, none⟩ = some (.int .i64 t.f0) := (q4 hX 1).trans rfl; have x2 : W.cell? ⟨bx, 2, none⟩ = some (.string n1) := (q4 hX 2).trans rfl; have x4 : W.cell? ⟨bx, 4, none⟩ = some kvx := (q4 hX 4).trans rfl; have y1 : W.cell? ⟨by_, 1, none⟩ = some (.int .i64 u.f0) := (q4 hY 1).trans rfl; have y2 : W.cell? ⟨by_, 2, none⟩ = some (.string n2) := (q4 hY 2).trans rfl; have y4 : W.cell? ⟨by_, 4, none⟩ = some kvy := (q4 hY 4).trans rfl
  have hdef : cpl t u = ((decide (t.f0 = u.f0) && decide (n1.data.toList = n2.data.toList)) && embL t.f2 u.f2) := by rw [cpl, sameC, hn1, hn2]
  have HDEF := Aside0.mk hdef; have HX := Aside0.mk hX; have HY := Aside0.mk hY; have HBX := Aside0.mk (E.hok _ hbx); have HBY := Aside0.mk (E.hok _ hby); have HS := Aside0.mk hS; have HCALL := Aside0.mk hcall; have HE := Aside0.mk E; clear hcall hx hy hT hU hk hhx hhy hpx hpy hpox hpoy hkx hky hkox hkoy hnx hny hX hY hn1 hn2 hL hS hdef E h1 h2 hbx hby
  by_cases hc : t.f0 = u.f0 ∧ n1.data.toList = n2.data.toList
  · obtain ⟨hc1, hc2⟩ := hc
    have e1 : (t.f0 == u.f0) = true := by simp [hc1]
    have e2 : (n1.toList == n2.toList) = true := by rw [toList_data, toList_data]; simp [hc2]
    have HD : Aside0 (cpl t u = embL t.f2 u.f2) := ⟨by rw [HDEF.out, decide_eq_true hc1, decide_eq_true hc2]; simp⟩; clear hc1 hc2
    go_enter Try.func93, Try.ntmps93
    go_wp2_with fail
    go_region_held3 (fun W' => W'.cell? ⟨bx, 1, none⟩ = some (.int .i64 t.f0) ∧ W'.cell? ⟨bx, 2, none⟩ = some (.string n1) ∧ W'.cell? ⟨bx, 4, none⟩ = some kvx ∧ W'.cell? ⟨by_, 1, none⟩ = some (.int .i64 u.f0) ∧ W'.cell? ⟨by_, 2, none⟩ = some (.string n2) ∧ W'.cell? ⟨by_, 4, none⟩ = some kvy)
      ((first | exact ⟨x1, x2, x4, y1, y2, y4⟩ | exact ⟨z1.out, z2.out, z3.out, z4.out, z5.out, z6.out⟩))
      (first | (go_at_call 90; go_split_ands; refine (HCALL.out _ (HS.out.below ((Below.refl _ _).drew))).mono ?_; rintro e w4 ⟨rfl, hs4, hf4⟩; have HS4 := Aside0.mk hs4; have HF4 := Aside0.mk hf4; have z1 : Aside0 (w4.cell? ⟨bx, 1, none⟩ = some (.int .i64 t.f0)) := ⟨(q4 ((hf4.block bx (blk_lt HX.out) HBX.out).trans HX.out) 1).trans rfl⟩; have z2 : Aside0 (w4.cell? ⟨bx, 2, none⟩ = some (.string n1)) := ⟨(q4 ((hf4.block bx (blk_lt HX.out) HBX.out).trans HX.out) 2).trans rfl⟩; have z3 : Aside0 (w4.cell? ⟨bx, 4, none⟩ = some kvx) := ⟨(q4 ((hf4.block bx (blk_lt HX.out) HBX.out).trans HX.out) 4).trans rfl⟩; have z4 : Aside0 (w4.cell? ⟨by_, 1, none⟩ = some (.int .i64 u.f0)) := ⟨(q4 ((hf4.block by_ (blk_lt HY.out) HBY.out).trans HY.out) 1).trans rfl⟩; have z5 : Aside0 (w4.cell? ⟨by_, 2, none⟩ = some (.string n2)) := ⟨(q4 ((hf4.block by_ (blk_lt HY.out) HBY.out).trans HY.out) 2).trans rfl⟩; have z6 : Aside0 (w4.cell? ⟨by_, 4, none⟩ = some kvy) := ⟨(q4 ((hf4.block by_ (blk_lt HY.out) HBY.out).trans HY.out) 4).trans rfl⟩; clear hs4 hf4))
    go_wp2_with fail
    go_ret; refine ⟨?_, HS4.out, ⟨HF4.out.os, HF4.out.tape, HF4.out.output, HF4.out.size, HF4.out.block⟩⟩; show _ = Ending.returned (.bool (cpl t u)); rw [HD.out]; rfl
  · have HD : Aside0 (cpl t u = false) := ⟨by
      rw [HDEF.out]
      by_cases h1 : t.f0 = u.f0
      · rw [decide_eq_false (fun h2 => hc ⟨h1, h2⟩)]; simp
      · rw [decide_eq_false h1]; simp⟩
    by_cases hc1 : t.f0 = u.f0
    · have e1 : (t.f0 == u.f0) = true := by simp [hc1]
      have e2 : (n1.toList == n2.toList) = false := by rw [toList_data, toList_data]; simp; exact fun h => hc ⟨hc1, by rw [h]⟩
      clear hc hc1
      go_enter Try.func93, Try.ntmps93
      go_wp2_with fail
      go_quiet (fail)
      go_wp2_with fail
      go_ret; refine ⟨?_, HS.out.below (W' := W.drewN nq) ⟨rfl, rfl, rfl, Nat.le_refl _, fun _ _ => rfl⟩, ⟨rfl, rfl, rfl, Nat.le_refl _, fun _ _ _ => rfl⟩⟩; show _ = Ending.returned (.bool (cpl t u)); rw [HD.out]; rfl
    · have e1 : (t.f0 == u.f0) = false := by simp [hc1]
      clear hc hc1
      go_enter Try.func93, Try.ntmps93
      go_wp2_with fail
      go_quiet (fail)
      go_wp2_with fail
      go_ret; refine ⟨?_, HS.out.below (W' := W.drewN nq) ⟨rfl, rfl, rfl, Nat.le_refl _, fun _ _ => rfl⟩, ⟨rfl, rfl, rfl, Nat.le_refl _, fun _ _ _ => rfl⟩⟩; show _ = Ending.returned (.bool (cpl t u)); rw [HD.out]; rfl
end Go.Proofs.Ytjhjhhibbmligaa.TE
end
section
namespace Go.Proofs.Ytjhjhhibbmligaa.TE
open Go.RowKit Go.Shelf Go.Proofs.YtjhjhhibbmligaaW.PrintWords Go.Proofs.YtjhjhhibbmligaaW.PrintLast Go.Proofs.YtjhjhhibbmligaaW.PrintMore Go.Proofs.Ytjhjhhibbmligaa.Evs
set_option linter.unusedVariables false
set_option linter.unusedSimpArgs false
theorem info_intE : (Try.prog.info? 3).map (fun i => (i.zero, i.size, i.bytes)) = some (some (.int .i64 0), 1, 8) := by kernel_rfl
theorem info_node : (Try.prog.info? 100).map (fun i => (i.zero, i.size, i.bytes)) = some (some (.pointer none), 1, 8) := by kernel_rfl
theorem own_base0 {w : World} {base n e z : Nat} {v : Value} {xs : List Value} (h : w.ownsRow base e z v n xs) : w.ownsRow 0 e z v n xs := by
  obtain ⟨h1, h2⟩ := h; refine ⟨h1, ?_⟩
  rcases h2 with h2 | ⟨b, cap, cur, hv, hb, r⟩
  · exact .inl h2
  · exact .inr ⟨b, cap, cur, hv, Nat.zero_le _, r⟩
theorem own_up {w : World} {base n e z : Nat} {v : Value} {xs : List Value} (h : w.ownsRow 0 e z v n xs) (hb : ∀ k, v.ownBlock = some k → base ≤ k) : w.ownsRow base e z v n xs := by
  obtain ⟨h1, h2⟩ := h; refine ⟨h1, ?_⟩
  rcases h2 with h2 | ⟨b, cap, cur, hv, _, r⟩
  · exact .inl h2
  · exact .inr ⟨b, cap, cur, hv, hb b (by rw [hv]; rfl), r⟩
set_option maxRecDepth 100000 in
set_option maxHeartbeats 2000000 in
theorem cloneI (pv : Value) (xs : List Int) (w : World) (h : w.ownsRow 0 3 1 pv xs.length (xs.map (Value.int .i64 ·))) (hn : xs.length ≤ 1099511627776) :
    Calls Try.prog 47 #[pv] w fun e w' => ∃ v, e = .returned v ∧ w'.ownsRow w.heap.size 3 1 v xs.length (xs.map (Value.int .i64 ·)) ∧ Below w.heap.size w w' := by
  have heq := fun (W : World) (a : Option Addr) (n c : Nat) => Lib.run_eql_slice_nil (P := Try.prog) W 43 3 a n c 0 0 Try.underlying43
  rcases h.2 with ⟨rfl, h0⟩ | ⟨g, cap, cur, rfl, _, hh, hcap, hmax, hcs, htake⟩
  · have hx : xs = [] := List.eq_nil_of_length_eq_zero h0; subst hx; clear h
    go_enter Try.func47, Try.ntmps47
    go_wp2
    go_ret; exact ⟨_, rfl, World.ownsRow_nil _ _ _ _, Below.refl _ _⟩
  · obtain ⟨i0, hi, hz0, hz1, hz2⟩ := info_parts info_intE; have HH := Aside0.mk h; have hlt : g < w.heap.size := (Array.getElem?_eq_some_iff.1 hh).1; have hk0 := World.alloc_heap_new w (.cells #[] 3); have hbl : Below w.heap.size w (w.alloc (.cells #[] 3)) := (Below.refl _ _).alloc (Nat.le_refl _) _; have HK0 := Aside0.mk hk0; have HBL := Aside0.mk hbl; have HI := Aside0.mk (And.intro hi (And.intro hz0 (And.intro hz1 hz2))); have HN : Aside0 (∀ j u, (xs.map (Value.int .i64 ·))[j]? = some u → (w.alloc (.cells #[] 3)).cell? ((⟨g, 0, none⟩ : Addr).add j) = some u) := ⟨fun j u hj => (hbl.cell (p := (⟨g, 0, none⟩ : Addr).add j) (by rw [add_plain]; exact hlt)).trans (h.cells rfl j u hj)⟩; clear h hh htake hcs hmax hk0 hbl hi hz0 hz1 hz2
    go_enter Try.func47, Try.ntmps47
    go_wp2_with (at_builtin; refine wpList_append_own _ rfl (.tmp 5) (.tmp 6) 43 rfl w.heap.size 3 i0 (.int .i64 0) 1 8 Try.underlying43 HI.out.1 HI.out.2.1 HI.out.2.2.1 HI.out.2.2.2 rfl (by decide) (.slice (some ⟨w.heap.size, 0, none⟩) 0 0) 0 [] rfl ⟨rfl, .inr ⟨w.heap.size, 0, #[], rfl, Nat.le_refl _, HK0.out, Nat.le_refl _, Nat.zero_le _, rfl, rfl⟩⟩ ⟨g, 0, none⟩ xs.length cap (xs.map (Value.int .i64 ·)) rfl (by simp) HN.out (fun u hu => by obtain ⟨a, _, rfl⟩ := List.mem_map.1 hu; rfl) (by simp only [maxLen]; omega) (by omega) HBL.out.size ?_; intro v1 w1 ho hg _; have HO := Aside0.mk ho; have HB1 := Aside0.mk (HBL.out.grown hg HBL.out.size (fun k e => by cases e; exact Nat.le_refl _)); clear ho hg)
    go_ret; refine ⟨_, rfl, ?_, HB1.out⟩; have := HO.out
    simpa using this
theorem own_below0 {w w' : World} {base n e z : Nat} {v : Value} {xs : List Value} (h : w.ownsRow base e z v n xs) (hb : Below w.heap.size w w') : w'.ownsRow base e z v n xs := own_same h (fun k hk => hb.block k (own_ltA h k hk).1)
theorem one_below {w w2 : World} {ad : Addr} {news : List Value} (h : ∀ j u, news[j]? = some u → w.cell? (ad.add j) = some u) (hb : Below w.heap.size w w2) : ∀ j u, news[j]? = some u → w2.cell? (ad.add j) = some u := fun j u hj => pw_cell_below hb (h j u hj)
theorem below_al {w w' : World} (h : Below w.heap.size w w') (o : Obj) : Below w.heap.size w (w'.alloc o) := h.alloc h.size o
theorem below_dr {w w' : World} (h : Below w.heap.size w w') : Below w.heap.size w w'.drew := h.drew
theorem own_neC {w : World} {base n e z : Nat} {v : Value} {xs : List Value} {g : Nat} {cs : Array Value} {t : TypeId} (h : w.ownsRow base e z v n xs) (hg : w.heap[g]? = some (.cells cs t (0, 0))) (he : t ≠ e) : some g ≠ v.ownBlock := by
  rcases h.2 with ⟨rfl, _⟩ | ⟨b, cap, cur, rfl, _, hk, _⟩
  · simp [Value.ownBlock]
  · intro hh
    obtain rfl : g = b := by simpa [Value.ownBlock] using hh
    rw [hg] at hk
    injection hk with hk
    injection hk with _ h2 _
    exact he h2
theorem flat_long : ∀ l : List Tm, l.length ≤ (flat l).length
  | [] => Nat.zero_le _
  | x :: r => by have := flat_long r; rw [flat_cons]; simp; omega
theorem embed_of_eq (k : Int) (t : ByteArray) (ks : List Tm) : embed_of.f k t ks = some (k, clsN k t) := by
  unfold embed_of.f clsN
  by_cases h : k = 8
  · rw [if_pos h, if_pos h]
  · rw [if_neg h, if_neg h]
set_option maxRecDepth 100000 in
set_option maxHeartbeats 4000000 in
theorem nodes.calls (w0 : World) : ∀ (k : Nat) (A : Option Addr) (c : Nat) (l : List Tm) (pv : Value) (path : List Int) (nb num : Nat) (W : World), SizeOf.sizeOf l ≤ k → Kd.C k42 w0 A l.length l → l.length ≤ c → Below w0.heap.size w0 W → w0.heap.size ≤ nb →
      W.heap[nb]? = some (.cells #[.int .i64 num] 3 (0, 0)) → W.ownsRow 0 3 1 pv path.length (path.map (Value.int .i64 ·)) → path.length + num + 2 * (flat l).length ≤ 1048576 → pv.ownBlock ≠ some nb →
      Calls Try.prog 137 #[.slice A l.length c, pv, .pointer (some ⟨nb, 0, none⟩)] W fun e W' =>
        ∃ v vs, e = .returned v ∧ W'.ownsRow W.heap.size 100 1 v l.length vs ∧ NdL W' (fun k => W.heap.size ≤ k ∧ some k ≠ v.ownBlock) vs l num path ∧ W'.heap[nb]? = some (.cells #[.int .i64 ((num + (flat l).length : Nat) : Int)] 3 (0, 0)) ∧ Fr W W' (fun i => i = nb) := by
  intro k
  induction k with
  | zero => intro A c l pv path nb num W hk; cases l <;> simp at hk
  | succ k ih =>
    intro A c l pv path nb num W hk hC hc hB hnb hn0 hp hbd hpn; have hu42 := Try.underlying42; have huN := Try.underlying105; have huC := Try.underlying103; have hmax := Kd.C_max hC; have HC := Aside0.mk hC; have HB := Aside0.mk hB; have HN0 := Aside0.mk hn0; have HP := Aside0.mk hp; have HK := Aside0.mk hk; have HPN := Aside0.mk hpn; have HBD := Aside0.mk hbd; clear hC hB hn0 hp hk hpn hbd
    go_enter Try.func137, Try.ntmps137
    go_wp2_with fail
    go_loopw [7, 13] (fun vo i wr => ∃ (q : Nat) (vs : List Value), i = .int .i64 q ∧ q ≤ l.length ∧ Aside0 (wr.ownsRow W.heap.size 100 1 vo q vs) ∧ Aside0 (NdL wr (fun k => W.heap.size ≤ k ∧ k < wr.heap.size ∧ some k ≠ vo.ownBlock) vs (l.take q) num path) ∧
      wr.heap[nb]? = some (.cells #[.int .i64 ((num + (flat (l.take q)).length : Nat) : Int)] 3 (0, 0)) ∧ Aside0 (Fr W wr (fun i => i = nb))) (fun vo i wr => l.length - (intOf i).toNat)
    case atStart => exact ⟨0, [], rfl, Nat.zero_le _, ⟨World.ownsRow_nil _ _ _ _⟩, ⟨NdL.nil _ _ _ _ _⟩, by simpa [flat_nil] using HN0.out, ⟨Fr.refl _ _⟩⟩
    case round =>
      obtain ⟨q, vs, rfl, hq, HO, HL, hnb1, HF⟩ := hrel; have hBr : Below w0.heap.size w0 wr := fr_below0 HB.out HF.out (fun k e => by rw [e]; exact hnb)
      by_cases hlt : q < l.length
      · obtain ⟨ad, A2, c2, rfl, hx0, hx1, hx2, hl2, hr2⟩ := at_T42 HC.out (q : Int) (by omega) (by omega)
        have hrd : rd_T42 l (q : Int) = l[q] := by simp [rd_T42, List.getD_eq_getElem?_getD, List.getElem?_eq_getElem hlt]
        rw [hrd] at hx0 hx1 hx2 hl2 hr2; rw [Int.toNat_natCast] at hx0 hx1 hx2; have hsz := sizeOf_kids' l q hlt; have hft := flat_take_succ l q hlt; have hfl := flat_take_le l (q + 1); obtain ⟨x, hxx⟩ : ∃ x, l[q] = x := ⟨_, rfl⟩; rw [hxx] at hx0 hx1 hx2 hl2 hr2 hsz hft
        have hsk : SizeOf.sizeOf x.f2 ≤ k := by have := HK.out; omega
        replace hx0 := (hBr.cell (World.block_lt_of_cell? w0 _ hx0)).trans hx0; replace hx1 := (hBr.cell (World.block_lt_of_cell? w0 _ hx1)).trans hx1; replace hx2 := (hBr.cell (World.block_lt_of_cell? w0 _ hx2)).trans hx2
        have hlb : decide ((q : Int) < (l.length : Int)) = true := by simp; omega
        obtain ⟨n1, hn1⟩ : ∃ n1 : Nat, n1 = num + (flat (l.take q)).length := ⟨_, rfl⟩; rw [← hn1] at hnb1; have HXX := Aside0.mk hxx; have HN1 := Aside0.mk hn1; have HNB := Aside0.mk hnb1; have HFT := Aside0.mk hft; have HFL := Aside0.mk hfl; have HSK := Aside0.mk hsk; have HBR := Aside0.mk hBr; clear hxx hn1 hft hfl hsz hsk hBr hrd; clear hnb1
        go_wp2_with fail
        obtain ⟨C, hCC⟩ : ∃ C : Obj, C = .cells #[.int .i64 x.f0, .string x.f1, .slice A2 x.f2.length c2] 42 := ⟨_, rfl⟩; rw [← hCC]
        have hkt : (wr.alloc C).heap[wr.heap.size]? = some (.cells #[.int .i64 x.f0, .string x.f1, .slice A2 x.f2.length c2] 42 (0, 0)) := by rw [hCC]; exact World.alloc_heap_new wr _
        have hbt : Below wr.heap.size wr (wr.alloc C) := (Below.refl _ _).alloc (Nat.le_refl _) _; obtain ⟨bt, hbt0⟩ : ∃ bt, bt = wr.heap.size := ⟨_, rfl⟩; obtain ⟨Wt, hWt⟩ : ∃ Wt, Wt = wr.alloc C := ⟨_, rfl⟩; rw [← hWt] at hkt hbt; rw [← hbt0] at hkt; rw [← hWt, ← hbt0]; have HKT := Aside0.mk hkt; have HBT := Aside0.mk hbt; have HBT0 := Aside0.mk hbt0; have HSZ : Aside0 (bt < Wt.heap.size) := ⟨blk_lt hkt⟩; have HRX : Aside0 (Kd.C k42 Wt A2 x.f2.length x.f2) := ⟨Kd.C_below hr2 (q12 HBR.out hbt)⟩; have HL2 := Aside0.mk hl2; have HR2 := Aside0.mk hr2; have HPT : Aside0 (Wt.ownsRow 0 3 1 pv path.length (path.map (Value.int .i64 ·))) := ⟨own_below0 (own_same HP.out (fun k e => HF.out.block k (own_ltA HP.out k e).1 (fun e' => HPN.out (by rw [e, e'])))) hbt⟩; have y0 : Wt.cell? ⟨nb, 0, none⟩ = some (.int .i64 n1) := pw_cell_below hbt ((q4 HNB.out 0).trans rfl); have t0 : Wt.cell? ⟨bt, 0, none⟩ = some (.int .i64 x.f0) := (q4 hkt 0).trans rfl; have t1 : Wt.cell? ⟨bt, 1, none⟩ = some (.string x.f1) := (q4 hkt 1).trans rfl; have t2 : Wt.cell? ⟨bt, 2, none⟩ = some (.slice A2 x.f2.length c2) := (q4 hkt 2).trans rfl; obtain ⟨i0, hi, hz0, hz1, hz2⟩ := info_parts info_intE; have HI := Aside0.mk (And.intro hi (And.intro hz0 (And.intro hz1 hz2))); have hbdl := HBD.out
        have hpl : path.length ≤ 1048576 := by omega
        have HPL := Aside0.mk hpl; clear hkt hbt hbt0 hWt hCC hr2 hl2 hi hz0 hz1 hz2 hx0 hx1 hx2 hbdl hpl
        go_cut [10] from 18 to 29 (fun v10 wx => Aside0 (∃ bx pv1, v10 = .pointer (some ⟨bx, 0, none⟩) ∧ Wt.heap.size ≤ bx ∧ wx.heap[bx]? = some (.cells #[.int .i64 n1, .int .i64 x.f0, .string (clsN x.f0 x.f1), pv1, .slice none 0 0] 105 (0, 0)) ∧
          wx.ownsRow Wt.heap.size 3 1 pv1 (path.length + 1) (path.map (Value.int .i64 ·) ++ [.int .i64 q]) ∧ Below Wt.heap.size Wt wx))
        case first =>
          go_region_held3 (fun W' => Below Wt.heap.size Wt W' ∧ W'.cell? ⟨nb, 0, none⟩ = some (.int .i64 n1) ∧ W'.cell? ⟨bt, 0, none⟩ = some (.int .i64 x.f0) ∧ W'.cell? ⟨bt, 1, none⟩ = some (.string x.f1) ∧ W'.cell? ⟨bt, 2, none⟩ = some (.slice A2 x.f2.length c2))
            ((go_split_ands; (refine (fun (h : Below Wt.heap.size Wt _) => ⟨h, pw_cell_below h y0, pw_cell_below h t0, pw_cell_below h t1, pw_cell_below h t2⟩) ?_); first | exact HB3.out | exact q12 (by assumption) HB2.out | exact q12 (by assumption) HB1.out | (repeat (first | assumption | exact Below.refl _ _ | with_reducible refine below_al ?_ _ | with_reducible refine below_dr ?_))))
            (first
              | (go_at_call 105; go_split_ands; refine (embed_of.calls x.f0 x.f1 A2 c2 x.f2 _ _ _ (Kd.C_below HRX.out (by assumption)) HL2.out (embed_of_eq _ _ _)).mono ?_; rintro e w1 ⟨rfl, hb1⟩; have HB1 := Aside0.mk hb1; clear hb1)
              | (go_at_call 47; go_split_ands; refine (cloneI pv path _ (own_below0 HPT.out (by assumption)) (Nat.le_trans HPL.out (by decide))).mono ?_; rintro e w2 ⟨v1, rfl, ho1, hb2⟩; have HBB := Aside0.mk (show Below Wt.heap.size Wt _ by assumption); have HB2 := Aside0.mk hb2; have HO1 := Aside0.mk ho1; clear ho1 hb2)
              | (have hq_ := HO1; go_split_ands; have HSX := Aside0.mk (Below.size (w := Wt) (B := Wt.heap.size) (show Below Wt.heap.size Wt _ by assumption)); refine step_append_own2 _ rfl (.tmp 24) (.tmp 26) 43 rfl 0 3 i0 (.int .i64 0) 1 8 Try.underlying43 HI.out.1 HI.out.2.1 HI.out.2.2.1 HI.out.2.2.2 rfl (by decide) v1 path.length (path.map (Value.int .i64 ·)) rfl (by first | exact own_base0 HO1.out | exact own_alloc (own_base0 HO1.out) _) ⟨_, 0, none⟩ 1 1 [.int .i64 q] rfl rfl (by first | exact cell_one_new _ _ _ | exact one_below (cell_one_new _ _ _) HB2.out | exact one_below (one_below (w := (Wt.alloc (.cells #[.int .i64 q] 3)).drew) (cell_one_new Wt _ _) HB1.out) HB2.out) (by simp [Value.oneCell']) (by have := HPL.out; simp only [maxLen]; omega) (by have := HPL.out; omega) (Nat.zero_le _) ?_; intro v3 w3 ho3 hg3 hat3; obtain ⟨A3, c3, rfl⟩ := own_formN ho3; have HO3 := Aside0.mk ho3; have HG3 := Aside0.mk hg3; have HAT3 := Aside0.mk hat3; have HB3 : Aside0 (Below Wt.heap.size Wt w3) := ⟨Below.grown (by assumption) hg3 (by first | exact Nat.le_refl _ | exact Below.size (w := Wt) (by assumption) | (have hz := Below.size (w := Wt) (B := Wt.heap.size) (by assumption); exact hz)) (fun k e => Nat.le_trans (by first | exact Nat.le_refl _ | exact Below.size (w := Wt) (B := Wt.heap.size) HBB.out) (own_ltA HO1.out k e).2)⟩; clear ho3 hg3 hat3 hq_))
          all_goals
            go_wp2
            go_meet
            case rel => exact ⟨⟨_, _, rfl, HB3.out.size, World.alloc_heap_new w3 _, own_alloc (own_up HO3.out (fun k e => (HAT3.out k e).elim (fun e' => Nat.le_trans HBB.out.size (own_ltA HO1.out k e').2) (fun h => Nat.le_trans HSX.out h))) _, below_al HB3.out _⟩⟩
        case rest =>
          obtain ⟨bx, pv1, rfl, hbx, hkx, hox, hbw⟩ := hcut.out; have z0 : wc.cell? ⟨nb, 0, none⟩ = some (.int .i64 n1) := pw_cell_below hbw y0; have hknb : wc.heap[nb]? = some (.cells #[.int .i64 n1] 3 (0, 0)) := (hbw.block nb (by have := HSZ.out; have := (Array.getElem?_eq_some_iff.1 HNB.out).1; have := HBT.out.size; omega)).trans ((HBT.out.block nb (Array.getElem?_eq_some_iff.1 HNB.out).1).trans HNB.out); have zf : wc.frozen? ⟨nb, 0, none⟩ = false := q11 hknb 0; have hn0 : (0 : Int) ≤ (n1 : Int) := Int.natCast_nonneg _
          have hn1b : (n1 : Int) ≤ 1048576 := by have := HN1.out; have := HFT.out; have := HFL.out; have := HBD.out; have h3 := flat_take_le l q; omega
          have HKX := Aside0.mk hkx; have HOX := Aside0.mk hox; have HBW := Aside0.mk hbw; have HKNB := Aside0.mk hknb; clear hcut hkx hox hbw hknb y0 t0 t1 t2
          go_wp2_with fail
          have hnbW : nb < W.heap.size := (Array.getElem?_eq_some_iff.1 HN0.out).1; have hWr : W.heap.size ≤ wr.heap.size := HF.out.size
          have hrt : wr.heap.size < Wt.heap.size := by have := HSZ.out; have := HBT0.out; omega
          have hg2 : wc.grownBy (wc.setCell ⟨nb, 0, none⟩ (.int .i64 (n1 + 1))) (some nb) := grown_set wc nb 0 _
          have hs2 : (wc.setCell ⟨nb, 0, none⟩ (.int .i64 (n1 + 1))).heap[nb]? = some (.cells #[.int .i64 (n1 + 1)] 3 (0, 0)) := by simpa using q21 HKNB.out 0 (.int .i64 (n1 + 1))
          obtain ⟨W2, hW2⟩ : ∃ W2, W2 = wc.setCell ⟨nb, 0, none⟩ (.int .i64 (n1 + 1)) := ⟨_, rfl⟩; rw [← hW2] at hg2 hs2 ⊢; have hk2 : W2.heap[bx]? = _ := (hg2.block bx (blk_lt HKX.out) (fun e => by cases e; omega)).trans HKX.out; have ho2 : W2.ownsRow Wt.heap.size 3 1 pv1 (path.length + 1) (path.map (Value.int .i64 ·) ++ [.int .i64 q]) := own_grown HOX.out hg2 (fun b hb e => by cases e; have := (own_ltA HOX.out nb hb).2; omega); have hkt2 : W2.heap[bt]? = _ := (hg2.block bt (by have := HSZ.out; have := HBW.out.size; omega) (fun e => by cases e; have := HBT0.out; omega)).trans ((HBW.out.block bt HSZ.out).trans HKT.out); have r0 : W2.cell? ⟨bt, 2, none⟩ = some (.slice A2 x.f2.length c2) := (q4 hkt2 2).trans rfl; have r1 : W2.cell? ⟨bx, 3, none⟩ = some pv1 := (q4 hk2 3).trans rfl; have HKT2 := Aside0.mk hkt2; have HG2 := Aside0.mk hg2; have HS2 := Aside0.mk hs2; have HK2 := Aside0.mk hk2; have HO2 := Aside0.mk ho2; clear hg2 hs2 hk2 ho2 hkt2 z0 zf hW2; have hB3 : Below w0.heap.size w0 W2.drew := ((fr_below0 ((q12 (q12 HBR.out HBT.out) HBW.out)) (Fr.of_grown (S := fun i => i = nb) HG2.out (fun k e => by cases e; rfl)) (fun k e => by rw [e]; exact hnb)).drew); have hft := HFT.out; have hfl := HFL.out; have hbd := HBD.out; have hn1 := HN1.out; rw [hft, List.length_append, List.length_cons] at hfl; have hcall := ih A2 c2 x.f2 pv1 (path ++ [(q : Int)]) nb (n1 + 1) W2.drew HSK.out HR2.out HL2.out hB3 hnb HS2.out (by rw [List.map_append, List.length_append]; exact own_base0 HO2.out) (by rw [List.length_append, List.length_singleton]; omega) (fun e => by have := (own_ltA HO2.out nb e).2; omega); have HCALL := Aside0.mk hcall; have HB3 := Aside0.mk hB3; clear hcall hB3 hft hfl hbd hn1 ih
          go_region_held3 (fun W' => W'.cell? ⟨bt, 2, none⟩ = some (.slice A2 x.f2.length c2) ∧ W'.cell? ⟨bx, 3, none⟩ = some pv1)
            ((first | exact ⟨r0, r1⟩ | exact ⟨S0.out, S1.out⟩ | exact ⟨S2.out, S3.out⟩))
            (first | (go_at_call 137; go_split_ands; refine HCALL.out.mono ?_; rintro e w4 ⟨v2, vs2, rfl, ho4, hl4, hn4, hf4⟩; obtain ⟨A4, c4, rfl⟩ := own_formN ho4; have hk4 : w4.heap[bx]? = _ := (hf4.block bx (blk_lt HK2.out) (by omega)).trans HK2.out; have hkt4 : w4.heap[bt]? = _ := (hf4.block bt (blk_lt HKT2.out) (by have := HBT0.out; omega)).trans HKT2.out; have HK4 := Aside0.mk hk4; have hs5 : (w4.setCell ⟨bx, 4, none⟩ (.slice A4 x.f2.length c4)).heap[bx]? = some (.cells #[.int .i64 n1, .int .i64 x.f0, .string (clsN x.f0 x.f1), pv1, .slice A4 x.f2.length c4] 105 (0, 0)) := (by simpa using q21 hk4 4 (.slice A4 x.f2.length c4)); have HS5 := Aside0.mk hs5; have ff := q11 hk4 4; have S0 := Aside0.mk (show w4.cell? ⟨bt, 2, none⟩ = some (.slice A2 x.f2.length c2) from (q4 hkt4 2).trans rfl); have S1 := Aside0.mk (show w4.cell? ⟨bx, 3, none⟩ = some pv1 from (q4 hk4 3).trans rfl); have S2 := Aside0.mk (show (w4.setCell ⟨bx, 4, none⟩ (.slice A4 x.f2.length c4)).cell? ⟨bt, 2, none⟩ = some (.slice A2 x.f2.length c2) from (q4 ((Below.heap_setCell w4 ⟨bx, 4, none⟩ _ bt (by have := HSZ.out; show bt ≠ bx; omega)).trans hkt4) 2).trans rfl); have S3 := Aside0.mk (show (w4.setCell ⟨bx, 4, none⟩ (.slice A4 x.f2.length c4)).cell? ⟨bx, 3, none⟩ = some pv1 from (q4 hs5 3).trans rfl); have HO4 := Aside0.mk ho4; have HL4 := Aside0.mk hl4; have HN4 := Aside0.mk hn4; have HF4 := Aside0.mk hf4; have x4 := (q4 hk4 4); clear ho4 hl4 hn4 hf4 hk4 hkt4 hs5))
          clear r0 r1
          have hq20 : q ≤ 1048576 := by
            have h1 := HBD.out; have h2 := flat_take_le l l.length; have h3 : l.length ≤ (flat l).length := flat_long l
            omega
          obtain ⟨W5, hW5⟩ : ∃ W5, W5 = w4.setCell ⟨bx, 4, none⟩ (.slice A4 x.f2.length c4) := ⟨_, rfl⟩
          have hf5 : Fr w4 W5 (fun i => i = bx) := by rw [hW5]; exact Fr.of_grown (grown_set w4 bx 4 _) (fun i e => by cases e; rfl)
          rw [← hW5] at HS5 ⊢; clear hW5
          have hbxn : bx ≠ nb := by omega
          have hz45 : w4.heap.size ≤ W5.heap.size := hf5.size; have hz24 : W2.heap.size ≤ w4.heap.size := HF4.out.size; have hzt2 : Wt.heap.size ≤ W2.heap.size := Nat.le_trans HBW.out.size HG2.out.size
          have hold : ∀ k, k < Wt.heap.size → k ≠ nb → W5.heap[k]? = Wt.heap[k]? := fun k hk hn => (hf5.block k (by omega) (by omega)).trans ((HF4.out.block k (show k < W2.heap.size by omega) hn).trans ((HG2.out.block k (Nat.lt_of_lt_of_le hk HBW.out.size) (fun e => hn (by cases e; rfl))).trans (HBW.out.block k hk)))
          have ho5 : W5.ownsRow W.heap.size 100 1 u7 q vs := own_same HO.out (fun k e => by
            have h1 := own_ltA HO.out k e
            exact (hold k (by omega) (by omega)).trans (HBT.out.block k h1.1))
          have hbxl : bx < W5.heap.size := blk_lt HS5.out; have HOLD := Aside0.mk hold; have HF5 := Aside0.mk hf5; have HO5 := Aside0.mk ho5; obtain ⟨j0, hj, hj0, hj1, hj2⟩ := info_parts info_node; have HJ := Aside0.mk (And.intro hj (And.intro hj0 (And.intro hj1 hj2))); have HQB := Aside0.mk hq20; clear hold hf5 ho5 hj hj0 hj1 hj2 hq20
          go_wp2_with (at_builtin; refine wpList_append_own_at _ rfl (.tmp 46) (.tmp 48) 91 rfl W.heap.size 100 j0 (.pointer none) 1 8 Try.underlying91 HJ.out.1 HJ.out.2.1 HJ.out.2.2.1 HJ.out.2.2.2 rfl (by decide) u7 q vs rfl (own_alloc HO5.out _) ⟨W5.heap.size, 0, none⟩ 1 1 [.pointer (some ⟨bx, 0, none⟩)] rfl rfl (cell_one_new _ _ _) (by simp [Value.oneCell']) (by have := HQB.out; simp only [maxLen]; omega) (by have := HQB.out; omega) (by simp; omega) ?_; intro v7 w7 ho7 hg7 _ hat7; have HO7 := Aside0.mk ho7; have HG7 := Aside0.mk hg7; have HAT7 := Aside0.mk hat7; clear ho7 hg7 hat7)
          have hz6 : (W5.alloc (.cells #[.pointer (some ⟨bx, 0, none⟩)] 100)).heap.size = W5.heap.size + 1 := by simp
          have h56 : ∀ k, k < W5.heap.size → some k ≠ u7.ownBlock → w7.heap[k]? = W5.heap[k]? := fun k hk hn => (HG7.out.block k (by omega) hn).trans (Below.heap_alloc _ _ k hk)
          have hz7 : W5.heap.size + 1 ≤ w7.heap.size := by have := HG7.out.size; omega
          have hu7 : ∀ k, u7.ownBlock = some k → W.heap.size ≤ k ∧ k < wr.heap.size := fun k e => ⟨(own_ltA HO.out k e).2, (own_ltA HO.out k e).1⟩
          have hv7 : ∀ k, v7.ownBlock = some k → u7.ownBlock = some k ∨ W5.heap.size ≤ k := fun k e => by
            rcases HAT7.out with h | h
            · exact .inl (by rw [← h]; exact e)
            · right; rw [h] at e; injection e with e; omega
          have hk7 : w7.heap[bx]? = _ := (h56 bx hbxl (fun e => by have := hu7 bx e.symm; omega)).trans HS5.out; have hp2 := HO2.out
          have hp7 : w7.ownsRow 0 3 1 pv1 (path.length + 1) (path.map (Value.int .i64 ·) ++ [.int .i64 q]) := own_same (own_base0 hp2) (fun k e => by
            have h1 := own_ltA hp2 k e
            have h2 : k ≠ bx := fun e' => own_neC hp2 HK2.out (by decide) (by rw [e, e'])
            refine (h56 k (by omega) (fun e' => by have := hu7 k e'.symm; omega)).trans ((HF5.out.block k (by omega) h2).trans (HF4.out.block k (show k < W2.heap.size from h1.1) (by omega)))
            )
          have hpo : ∀ k, pv1.ownBlock = some k → W.heap.size ≤ k ∧ k < w7.heap.size ∧ some k ≠ v7.ownBlock := fun k e => by
            have h1 := own_ltA hp2 k e; refine ⟨by omega, by omega, fun e' => ?_⟩
            rcases hv7 k e'.symm with h | h
            · have := hu7 k h; omega
            · omega
          have hv4 := HO4.out; have hz3 : W2.drew.heap.size = W2.heap.size := rfl
          have hq7 : w7.ownsRow 0 100 1 (.slice A4 x.f2.length c4) x.f2.length vs2 := own_same (own_base0 hv4) (fun k e => by
            have h1 := own_ltA hv4 k e
            have h2 : k ≠ bx := fun e' => own_neC hv4 HK4.out (by decide) (by rw [e, e'])
            exact (h56 k (by omega) (fun e' => by have := hu7 k e'.symm; omega)).trans (HF5.out.block k h1.1 h2))
          have hqo : ∀ k, (Value.slice A4 x.f2.length c4).ownBlock = some k → W.heap.size ≤ k ∧ k < w7.heap.size ∧ some k ≠ v7.ownBlock := fun k e => by
            have h1 := own_ltA hv4 k e; refine ⟨by omega, by omega, fun e' => ?_⟩
            rcases hv7 k e'.symm with h | h
            · have := hu7 k h; omega
            · omega
          have hkids : NdL w7 (fun k => W.heap.size ≤ k ∧ k < w7.heap.size ∧ some k ≠ v7.ownBlock) vs2 x.f2 (n1 + 1) (path ++ [(q : Int)]) := HL4.out.keep (fun k hk hl => by
              have h1 := hk.1
              have h2 : k ≠ bx := by have := blk_lt HK2.out; omega
              exact (h56 k (by omega) (fun e' => by have := hu7 k e'.symm; omega)).trans (HF5.out.block k hl h2))
            (fun k hk hl => by
              have h1 := hk.1; refine ⟨by omega, by omega, fun e' => ?_⟩
              rcases hv7 k e'.symm with h | h
              · have := hu7 k h; omega
              · omega)
          have hnode : Nd w7 (fun k => W.heap.size ≤ k ∧ k < w7.heap.size ∧ some k ≠ v7.ownBlock) (.pointer (some ⟨bx, 0, none⟩)) x n1 (path ++ [(q : Int)]) :=
            .mk bx n1 x (path ++ [(q : Int)]) pv1 _ vs2 ⟨by omega, by omega, fun e' => by
              rcases hv7 bx e'.symm with h | h
              · have := hu7 bx h; omega
              · omega⟩ hk7 (by rw [List.map_append, List.length_append]; exact hp7) hpo hq7 hqo hkids
          have hlist : NdL w7 (fun k => W.heap.size ≤ k ∧ k < w7.heap.size ∧ some k ≠ v7.ownBlock) (vs ++ [.pointer (some ⟨bx, 0, none⟩)]) (l.take (q + 1)) num path := by
            have h1 : NdL w7 (fun k => W.heap.size ≤ k ∧ k < w7.heap.size ∧ some k ≠ v7.ownBlock) vs (l.take q) num path := HL.out.keep (fun k hk hl => (h56 k (by omega) hk.2.2).trans ((HOLD.out k (by omega) (by have := hk.1; omega)).trans (HBT.out.block k hl))) (fun k hk hl => ⟨hk.1, by omega, fun e' => by
              rcases hv7 k e'.symm with h | h
              · exact hk.2.2 h.symm
              · omega⟩)
            have hlen : vs.length = (l.take q).length := by
              have := HO.out.1; rw [List.length_take]; omega
            have h2 := h1.snoc (v := .pointer (some ⟨bx, 0, none⟩)) (t := x) hlen (by rw [← HN1.out, List.length_take, Nat.min_eq_left (by omega)]; exact hnode); rw [List.take_succ_eq_append_getElem hlt, HXX.out]; exact h2
          have hfr : Fr W w7 (fun i => i = nb) := ⟨HG7.out.os.trans (HF5.out.os.trans (HF4.out.os.trans (HG2.out.os.trans (HBW.out.os.trans (HBT.out.os.trans HF.out.os))))), HG7.out.tape.trans (HF5.out.tape.trans (HF4.out.tape.trans (HG2.out.tape.trans (HBW.out.tape.trans (HBT.out.tape.trans HF.out.tape))))), HG7.out.output.trans (HF5.out.output.trans (HF4.out.output.trans (HG2.out.output.trans (HBW.out.output.trans (HBT.out.output.trans HF.out.output))))), by omega, fun k hk hn =>
            (h56 k (by omega) (fun e' => by have := hu7 k e'.symm; omega)).trans ((HOLD.out k (by omega) hn).trans ((HBT.out.block k (by omega)).trans (HF.out.block k hk hn)))⟩
          have hnb7 : w7.heap[nb]? = some (.cells #[.int .i64 ((num + (flat (l.take (q + 1))).length : Nat) : Int)] 3 (0, 0)) := by
            have h1 := HN4.out
            have h2 : n1 + 1 + (flat x.f2).length = num + (flat (l.take (q + 1))).length := by rw [HFT.out, List.length_append, List.length_cons, HN1.out]; omega
            rw [h2] at h1; exact (h56 nb (by omega) (fun e' => by have := hu7 nb e'.symm; omega)).trans ((HF5.out.block nb (by omega) (Ne.symm hbxn)).trans h1)
          have HLIST := Aside0.mk hlist; have HFR := Aside0.mk hfr; have HNB7 := Aside0.mk hnb7; clear hlist hfr hnb7 hnode hkids hqo hq7 hpo hp7 hk7 hv7 hu7 hz7 h56 hz6 hv4 hp2 hz3
          go_roundw
          case rel => exact ⟨q + 1, vs ++ [.pointer (some ⟨bx, 0, none⟩)], by go_num, by omega, HO7, HLIST, HNB7.out, HFR⟩
          case measure => simp [intOf]; omega
      · obtain rfl : q = l.length := by omega
        have hlb : decide ((l.length : Int) < (l.length : Int)) = false := by simp
        rw [List.take_length] at HL; rw [List.take_length] at hnb1; have HNB := Aside0.mk hnb1; clear hnb1 ih
        go_wp2_with fail
        go_ret; exact ⟨_, _, rfl, HO.out, HL.out.keep (fun _ _ _ => rfl) (fun k hk _ => ⟨hk.1, hk.2.2⟩), HNB.out, HF.out⟩
end Go.Proofs.Ytjhjhhibbmligaa.TE
end
section
namespace Go.Proofs.Ytjhjhhibbmligaa.TE
open Go.RowKit Go.Shelf Go.Proofs.YtjhjhhibbmligaaW.PrintWords Go.Proofs.YtjhjhhibbmligaaW.PrintLast Go.Proofs.YtjhjhhibbmligaaW.PrintMore Go.Proofs.Ytjhjhhibbmligaa.Evs
set_option linter.unusedVariables false
set_option linter.unusedSimpArgs false
structure Bx (g be bq : Nat) (x : Value) (W : World) : Prop where
  h1 : W.heap[be]? = some (.cells #[.pointer (some ⟨g, 0, none⟩)] 92 (0, 0))
  h2 : W.heap[bq]? = some (.cells #[x] 100 (0, 0))
theorem Bx.fr {g be bq M : Nat} {x : Value} {W W' : World} (h : Bx g be bq x W) (hf : Fr W W' (fun i => i = M)) (h1 : be ≠ M) (h2 : bq ≠ M) : Bx g be bq x W' :=
  ⟨(hf.block be (blk_lt h.h1) h1).trans h.h1, (hf.block bq (blk_lt h.h2) h2).trans h.h2⟩
set_option maxRecDepth 100000 in
set_option maxHeartbeats 4000000 in
theorem emb1.calls {w0 : World} {g M NA NB : Nat} {T U : Nat → Tm} {ok : Nat → Prop} {k : Nat} (hE : EmbC w0 g M NA NB T U ok k) (x y : Value) (t u : Tm) (i j : Nat) (px py : List Int) (be bq : Nat) (W : World)
    (hx : Nd w0 ok x t i px) (hy : Nd w0 ok y u j py) (hT : SubT T NA i t) (hU : SubT U NB j u) (hk : SizeOf.sizeOf t + SizeOf.sizeOf u ≤ k) (hS : St w0 M NA NB T U W) (hb : Bx g be bq x W) :
    Calls Try.prog 140 #[y, .pointer (some ⟨be, 0, none⟩), .pointer (some ⟨bq, 0, none⟩)] W fun e W' => e = .returned (.bool (emb t u)) ∧ St w0 M NA NB T U W' ∧ Fr W W' (fun i => i = M) := by
  have hcall := hE x y t u i j px py W hx hy hT hU hk hS; have c1 : W.cell? ⟨be, 0, none⟩ = some (.pointer (some ⟨g, 0, none⟩)) := (q4 hb.h1 0).trans rfl; have c2 : W.cell? ⟨bq, 0, none⟩ = some x := (q4 hb.h2 0).trans rfl; have HCALL := Aside0.mk hcall; clear hcall hx hy hT hU hk hS hb hE
  go_enter Try.func140, Try.ntmps140
  go_wp2_with (go_at_call 96; refine HCALL.out.mono ?_; rintro e w4 ⟨rfl, hs4, hf4⟩; have HS4 := Aside0.mk hs4; have HF4 := Aside0.mk hf4; clear hs4 hf4)
  go_ret; exact ⟨rfl, HS4.out, HF4.out⟩
theorem embA_drop (t : Tm) (us : List Tm) (q : Nat) (h : q < us.length) : embA t (us.drop q) = (emb t us[q] || embA t (us.drop (q + 1))) := by rw [List.drop_eq_getElem_cons h, embA]
set_option maxRecDepth 100000 in
set_option maxHeartbeats 4000000 in
theorem idx.calls {w0 : World} {g M NA NB : Nat} {T U : Nat → Tm} {ok : Nat → Prop} {k : Nat} (E : Ex w0 g M NA NB T U ok) (hE : EmbC w0 g M NA NB T U ok k) (x v : Value) (t : Tm) (us : List Tm) (i j : Nat) (px py : List Int) (be bq : Nat) (W : World)
    (hx : Nd w0 ok x t i px) (hy : PL w0 ok v us j py) (hT : SubT T NA i t) (hU : SubL U NB j us) (hk : SizeOf.sizeOf t + SizeOf.sizeOf us ≤ k + 1) (hS : St w0 M NA NB T U W) (hb : Bx g be bq x W) (h1 : be ≠ M) (h2 : bq ≠ M) (hlen : us.length ≤ 1048576) :
    Calls Try.prog 94 #[v, .func (.func 140) #[] #[.pointer (some ⟨be, 0, none⟩), .pointer (some ⟨bq, 0, none⟩)]] W fun e W' => (∃ r : Int, e = .returned (.int .i64 r) ∧ decide (0 ≤ r) = embA t us) ∧ St w0 M NA NB T U W' ∧ Fr W W' (fun i => i = M) := by
  obtain ⟨vs, ho, hoo, hn⟩ := hy; obtain ⟨A, c, rfl⟩ := own_formN ho
  have hstep : ∀ q (hq : q < us.length) W2, St w0 M NA NB T U W2 → Bx g be bq x W2 → Calls Try.prog 140 #[vs.getD q (.bool false), .pointer (some ⟨be, 0, none⟩), .pointer (some ⟨bq, 0, none⟩)] W2 fun e W' => e = .returned (.bool (emb t us[q])) ∧ St w0 M NA NB T U W' ∧ Fr W2 W' (fun i => i = M) :=
    fun q hq W2 hs hb2 => emb1.calls hE x _ t us[q] i _ px _ be bq W2 hx (hn q hq) hT (hU.get q hq) (by have := List.sizeOf_lt_of_mem (List.getElem_mem hq); omega) hs hb2
  have hcell : ∀ q, q < us.length → ∀ W2, St w0 M NA NB T U W2 → ∃ b, A = some ⟨b, 0, none⟩ ∧ W2.cell? ⟨b, q, none⟩ = some (vs.getD q (.bool false)) := fun q hq W2 hs => by
    have hvl : q < vs.length := by have := ho.1; omega
    rcases ho.2 with ⟨e, h0⟩ | ⟨b, cap, cur, e, _, hh, r⟩
    · omega
    · injection e with e1 e2 e3
      subst e1; refine ⟨b, rfl, ?_⟩; have h3 := ho.cells rfl q (vs.getD q (.bool false)) (by rw [List.getElem?_eq_getElem hvl, List.getD_eq_getElem?_getD, List.getElem?_eq_getElem hvl]; rfl); have hbk : ok b := hoo b rfl; rw [add_plain] at h3; exact (World.cell?_of_block (w := w0) (hs.fr.block b (Array.getElem?_eq_some_iff.1 hh).1 (E.hok b hbk))).trans h3
  have HSTEP := Aside0.mk hstep; have HCELL := Aside0.mk hcell; have HS := Aside0.mk hS; have HB := Aside0.mk hb; clear hstep hcell hS hb hx hn hoo ho hT hU hk hE E
  go_enter Try.func94, Try.ntmps94
  go_wp2_with fail
  go_loopw [8] (fun i wr => ∃ q : Nat, i = .int .i64 q ∧ q ≤ us.length ∧ Aside0 (embA t us = embA t (us.drop q)) ∧ Aside0 (St w0 M NA NB T U wr) ∧ Aside0 (Bx g be bq x wr) ∧ Aside0 (Fr W wr (fun i => i = M))) (fun i wr => us.length - (intOf i).toNat)
  case atStart => exact ⟨0, rfl, Nat.zero_le _, ⟨by rw [List.drop_zero]⟩, HS, HB, ⟨Fr.refl _ _⟩⟩
  case round =>
    obtain ⟨q, rfl, hq, HD, HSr, HBr, HFr⟩ := hrel
    by_cases hlt : q < us.length
    · have hlb : decide ((q : Int) < (us.length : Int)) = true := by simp; omega
      obtain ⟨b, rfl, hc⟩ := HCELL.out q hlt wr HSr.out; have hd := embA_drop t us q hlt; have hcall := HSTEP.out q hlt wr HSr.out HBr.out; obtain ⟨y, hy⟩ : ∃ y, y = vs.getD q (.bool false) := ⟨_, rfl⟩; obtain ⟨r, hr⟩ : ∃ r, r = emb t us[q] := ⟨_, rfl⟩; rw [← hy] at hc hcall; rw [← hr] at hd hcall; have hq0 : (0 : Int) ≤ (q : Int) := Int.natCast_nonneg _
      have hql : (q : Int) < (us.length : Int) := by omega
      have HCALL := Aside0.mk hcall; have HDD := Aside0.mk hd; clear hcall hd hy hr
      cases r with
      | true =>
        go_wp2_with (refine HCALL.out.mono ?_; rintro e w4 ⟨rfl, hs4, hf4⟩; have HS4 := Aside0.mk hs4; have HF4 := Aside0.mk hf4; clear hs4 hf4)
        go_ret; refine ⟨⟨_, rfl, ?_⟩, HS4.out, HFr.out.trans HF4.out⟩; rw [HD.out, HDD.out]; simp
      | false =>
        go_wp2_with (refine HCALL.out.mono ?_; rintro e w4 ⟨rfl, hs4, hf4⟩; have HS4 := Aside0.mk hs4; have HF4 := Aside0.mk hf4; clear hs4 hf4)
        go_roundw
        case rel => exact ⟨q + 1, by go_num, by omega, ⟨by rw [HD.out, HDD.out]; rfl⟩, HS4, ⟨HBr.out.fr HF4.out h1 h2⟩, ⟨HFr.out.trans HF4.out⟩⟩
        case measure => simp [intOf]; omega
    · obtain rfl : q = us.length := by omega
      have hlb : decide ((us.length : Int) < (us.length : Int)) = false := by simp
      go_wp2_with fail
      go_ret; refine ⟨⟨_, rfl, ?_⟩, HSr.out, HFr.out⟩; rw [HD.out, List.drop_length, embA]; rfl
set_option maxRecDepth 100000 in
set_option maxHeartbeats 4000000 in
theorem cont.calls {w0 : World} {g M NA NB : Nat} {T U : Nat → Tm} {ok : Nat → Prop} {k : Nat} (E : Ex w0 g M NA NB T U ok) (hE : EmbC w0 g M NA NB T U ok k) (x v : Value) (t : Tm) (us : List Tm) (i j : Nat) (px py : List Int) (be bq : Nat) (W : World)
    (hx : Nd w0 ok x t i px) (hy : PL w0 ok v us j py) (hT : SubT T NA i t) (hU : SubL U NB j us) (hk : SizeOf.sizeOf t + SizeOf.sizeOf us ≤ k + 1) (hS : St w0 M NA NB T U W) (hb : Bx g be bq x W) (h1 : be ≠ M) (h2 : bq ≠ M) (hlen : us.length ≤ 1048576) :
    Calls Try.prog 139 #[v, .func (.func 140) #[] #[.pointer (some ⟨be, 0, none⟩), .pointer (some ⟨bq, 0, none⟩)]] W fun e W' => e = .returned (.bool (embA t us)) ∧ St w0 M NA NB T U W' ∧ Fr W W' (fun i => i = M) := by
  have hcall := idx.calls E hE x v t us i j px py be bq W hx hy hT hU hk hS hb h1 h2 hlen; have HCALL := Aside0.mk hcall; clear hcall hx hy hT hU hk hS hb hE E
  go_enter Try.func139, Try.ntmps139
  go_wp2_with (go_at_call 94; refine HCALL.out.mono ?_; rintro e w4 ⟨⟨r, rfl, hr⟩, hs4, hf4⟩; have HS4 := Aside0.mk hs4; have HF4 := Aside0.mk hf4; have HR := Aside0.mk hr; clear hs4 hf4 hr)
  go_ret; refine ⟨?_, HS4.out, HF4.out⟩; show _ = Ending.returned (.bool (embA t us)); rw [← HR.out]; rfl
end Go.Proofs.Ytjhjhhibbmligaa.TE
end
