/- lists; all methods of the embedder. -/
import Derived.Test.YtjhjhhibbmligaaMTEIx
import Derived.Deep.CutRange
import Derived.RangeFuncNested
import Derived.OwnWalkIn
import Derived.TacticsInMore
import Derived.LoopNIn
import Derived.LoopIn
section
namespace Go.Proofs.Ytjhjhhibbmligaa.TE
open Go.RowKit Go.Shelf Go.Proofs.YtjhjhhibbmligaaW.PrintWords Go.Proofs.YtjhjhhibbmligaaW.PrintLast Go.Proofs.YtjhjhhibbmligaaW.PrintMore Go.Proofs.Ytjhjhhibbmligaa.Evs
set_option linter.unusedVariables false
set_option linter.unusedSimpArgs false
theorem zeroBo (w : World) : (zeroValue 4).run Try.prog w = .ok (.bool false) w := by kernel_rfl
set_option maxRecDepth 100000 in
theorem bool_inv {v : Value} {b : Bool} {ps : List MemPlace} (h : plainElem (H := Unit) Try.prog 4 v = some (.lit (.bool b), ps)) : v = .bool b := by
  have hu := Try.underlying4; unfold plainElem at h; rw [hu] at h
  cases v <;> simp at h
  rw [h.1]
set_option maxRecDepth 100000 in
theorem known_look {M NA NB : Nat} {T U : Nat → Tm} {W : World} (h : Kn M NA NB T U W) {i j : Nat} (hi : i < NA) (hj : j < NB) (hA : NA ≤ 1048576) (hB : NB ≤ 1048576) :
    ∃ b n, (Instr.lookup 165 (.map (some M)) (pairV i j) true).run Try.prog W = .ok (.tuple #[.bool b, .bool n]) W ∧ (n = true → b = emb (T i) (U j)) := by
  obtain ⟨D, L, h1, h2, h3, h4⟩ := h; obtain ⟨v, ps, hr, hv⟩ := h1.look_ok keyed Try.underlying165 (zeroBo W) (plainElem_bool Try.underlying4 false) (key_is i j (by omega) (by omega)); obtain ⟨h5, h6⟩ := h4 i j hi hj
  by_cases hm : (i, j) ∈ L
  · rw [h6 hm] at hv; rw [bool_inv hv] at hr; exact ⟨_, _, hr, fun _ => rfl⟩
  · rw [decide_eq_false hm] at h5; rw [h5] at hr; rw [Go.Maps.atKey_of_not_has h5] at hv; rw [bool_inv hv] at hr; exact ⟨_, _, hr, fun e => by cases e⟩
theorem own_tight {H : Type} {P : Program} {k : TypeId} {R : Value → Option (DataW H × List MemPlace)} {w : World} {b n : Nat} {D : DataW H} (h : w.ownsMap P k R b n D) : w.ownsMap P k R b (Maps.size D) D := by
  obtain ⟨es, clock, hb, F, hs, rfl⟩ := h; refine ⟨es, clock, hb, F, ?_, rfl⟩; rw [Go.Maps.size_eq, Go.length_sorted]; simp
set_option maxRecDepth 100000 in
theorem known_store {M NA NB : Nat} {T U : Nat → Tm} {W : World} (h : Kn M NA NB T U W) {i j : Nat} (hi : i < NA) (hj : j < NB) (hA : NA ≤ 1048576) (hB : NB ≤ 1048576) :
    ∃ w', (Instr.mapUpdate 165 (.map (some M)) (pairV i j) (.bool (emb (T i) (U j)))).run Try.prog W = .ok () w' ∧ Kn M NA NB T U w' ∧ W.grownBy w' (some M) := by
  obtain ⟨D, L, h1, h2, h3, h4⟩ := h; have hle : L.length ≤ NA * NB := pairs_le h2 h3; have hmul : NA * NB ≤ 1099511627776 := Nat.le_trans (Nat.mul_le_mul hA hB) (by decide); obtain ⟨w', hr, ho, ht⟩ := h1.store keyed Try.underlying165 (by simp only [maxLen]; omega) (key_is i j (by omega) (by omega)) (plainElem_bool Try.underlying4 (emb (T i) (U j))); refine ⟨w', hr, ?_, ht.grown⟩; have hik := keyed.key (key_is i j (by omega) (by omega)); have htd := h1.tidy keyed; have hsz := Go.Maps.size_put htd (k := keyL i j) (DataW.lit (H := Unit) (.bool (emb (T i) (U j)))); have hsl := h1.size_le
  have hne : ∀ i' j', i' < NA → j' < NB → (i', j') ≠ (i, j) → keyL i' j' ≠ keyL i j := fun i' j' a b hn e => hn (by obtain ⟨rfl, rfl⟩ := key_inj (by omega) (by omega) (by omega) (by omega) e; rfl)
  have hat : ∀ L' : List (Nat × Nat), (∀ p, p ∈ L' ↔ p = (i, j) ∨ p ∈ L) → ∀ i' j', i' < NA → j' < NB → Maps.has (D.put (keyL i j) (.lit (.bool (emb (T i) (U j))))) (keyL i' j') = decide ((i', j') ∈ L') ∧ ((i', j') ∈ L' → ∀ z, (D.put (keyL i j) (.lit (.bool (emb (T i) (U j))))).atKey (keyL i' j') z = .lit (.bool (emb (T i') (U j')))) := by
    intro L' hL' i' j' a b
    by_cases he : (i', j') = (i, j)
    · obtain ⟨rfl, rfl⟩ := Prod.mk.inj he; refine ⟨?_, fun _ z => Go.Maps.atKey_put_same htd.isMap hik _ _⟩; rw [Go.Maps.has_put_same htd.isMap hik, decide_eq_true ((hL' _).2 (.inl rfl))]
    · have h5 := hne i' j' a b he; obtain ⟨h6, h7⟩ := h4 i' j' a b; have h8 : (i', j') ∈ L' ↔ (i', j') ∈ L := ⟨fun h => ((hL' _).1 h).resolve_left he, fun h => (hL' _).2 (.inr h)⟩; refine ⟨?_, fun h z => ?_⟩
      · rw [Go.Maps.has_put_other h5, h6]; exact decide_eq_decide.2 h8.symm
      · rw [Go.Maps.atKey_put_other h5]; exact h7 (h8.1 h) z
  by_cases hm : (i, j) ∈ L
  · refine ⟨_, L, (own_tight ho).mono ?_, h2, h3, hat L (fun p => ⟨.inr, fun h => h.elim (fun e => by rw [e]; exact hm) id⟩)⟩; rw [hsz, (h4 i j hi hj).1, decide_eq_true hm, if_pos rfl]; exact hsl
  · refine ⟨_, (i, j) :: L, ho, List.nodup_cons.2 ⟨hm, h2⟩, fun p hp => ?_, hat _ (fun p => by simp)⟩
    rcases List.mem_cons.1 hp with rfl | hp
    · exact ⟨hi, hj⟩
    · exact h3 p hp
set_option maxRecDepth 100000 in
set_option maxHeartbeats 4000000 in
theorem embedded_of {w0 : World} {g M NA NB : Nat} {T U : Nat → Tm} {ok : Nat → Prop} (E : Ex w0 g M NA NB T U ok) {k : Nat} (hP : CplC w0 g M NA NB T U ok (k + 1)) (hE : EmbC w0 g M NA NB T U ok k) : EmbC w0 g M NA NB T U ok (k + 1) := by
  intro x y t u i j px py W hx hy hT hU hk hS; obtain ⟨by_, pvy, kvy, vsy, rfl, hby, hhy, hpy, hpoy, hky, hkoy, hny⟩ := hy.at; obtain ⟨bx, pvx, kvx, vsx, rfl, hbx, hhx, hpx, hpox, hkx, hkox, hnx⟩ := hx.at; have huN := Try.underlying105; have huC := Try.underlying103; have huE := Try.underlying167; have huK := Try.underlying169; have hMW : M < W.heap.size := hS.kn.lt; obtain ⟨C1, hC1⟩ : ∃ C : Obj, C = .cells #[.pointer (some ⟨g, 0, none⟩)] 92 := ⟨_, rfl⟩; obtain ⟨C2, hC2⟩ : ∃ C : Obj, C = .cells #[.pointer (some ⟨bx, 0, none⟩)] 100 := ⟨_, rfl⟩; have hb1 : Below W.heap.size W ((W.alloc C1).alloc C2) := ((Below.refl _ W).alloc (Nat.le_refl _) _).alloc (by simp) _; have hk1 : ((W.alloc C1).alloc C2).heap[W.heap.size]? = some C1 := (Below.heap_alloc _ _ _ (by simp)).trans (World.alloc_heap_new W _)
  have hk2 : ((W.alloc C1).alloc C2).heap[W.heap.size + 1]? = some C2 := by have := World.alloc_heap_new (W.alloc C1) C2; rwa [World.size_alloc] at this
  obtain ⟨be, hbe⟩ : ∃ be, be = W.heap.size := ⟨_, rfl⟩; obtain ⟨W1, hW1⟩ : ∃ W1, W1 = (W.alloc C1).alloc C2 := ⟨_, rfl⟩; rw [← hW1] at hb1 hk1 hk2; rw [← hbe] at hk1 hk2; rw [hC1] at hk1; rw [hC2] at hk2; have hBX : Bx g be (be + 1) (.pointer (some ⟨bx, 0, none⟩)) W1 := ⟨hk1, hk2⟩; have hS1 : St w0 M NA NB T U W1 := hS.below hb1; have hX := hS1.block hhx (E.hok _ hbx); have hY := hS1.block hhy (E.hok _ hby); have x0 : W1.cell? ⟨be + 1, 0, none⟩ = some (.pointer (some ⟨bx, 0, none⟩)) := (q4 hk2 0).trans rfl; have x1 : W1.cell? ⟨bx, 0, none⟩ = some (.int .i64 i) := (q4 hX 0).trans rfl; have y1 : W1.cell? ⟨by_, 0, none⟩ = some (.int .i64 j) := (q4 hY 0).trans rfl; have HX := Aside0.mk hX; have HHY := Aside0.mk hhy; have HBXX := Aside0.mk hBX; have HS1 := Aside0.mk hS1; have HB1 := Aside0.mk hb1; have HBE := Aside0.mk hbe; have HE := Aside0.mk E; have HT := Aside0.mk hT; have HU := Aside0.mk hU; have HIMP := Aside0.mk (And.intro hP hE); have HNX := Aside0.mk hx; have HNY := Aside0.mk hy; have HKK := Aside0.mk hk; have HWW : Aside0 (W1 = (W.alloc C1).alloc C2) := ⟨hW1⟩; have HCC := Aside0.mk (And.intro hC1 hC2); have HPY : Aside0 (PL w0 ok kvy u.f2 (j + 1) py) := ⟨⟨vsy, hky, hkoy, hny⟩⟩; have HBY := Aside0.mk (E.hok _ hby); clear hC1 hC2 hX hY hBX hS1 hb1 hbe E hT hU hP hE hx hy hk hW1 hk1 hk2 hhx hhy hS hpx hpy hpox hpoy hkx hky hkox hkoy hnx hny hbx hby
  go_enter Try.func96, Try.ntmps96
  go_wp2_with fail
  rw [← HCC.out.1, ← HCC.out.2, ← HWW.out, ← HBE.out]
  go_cut [7] from 11 to 19 (fun v7 wx => Aside0 (∃ bk, v7 = .pointer (some ⟨bk, 0, none⟩) ∧ W1.heap.size ≤ bk ∧ wx.heap[bk]? = some (.cells #[.int .i64 i, .int .i64 j] 169 (0, 0)) ∧ Below W1.heap.size W1 wx))
  case first =>
    go_region_held3 (fun W' => Below W1.heap.size W1 W' ∧ W'.cell? ⟨be + 1, 0, none⟩ = some (.pointer (some ⟨bx, 0, none⟩)) ∧ W'.cell? ⟨bx, 0, none⟩ = some (.int .i64 i) ∧ W'.cell? ⟨by_, 0, none⟩ = some (.int .i64 j))
      ((go_split_ands; (refine (fun (h : Below W1.heap.size W1 _) => ⟨h, pw_cell_below h x0, pw_cell_below h x1, pw_cell_below h y1⟩) ?_); (repeat (first | assumption | exact Below.refl _ _ | with_reducible refine below_al ?_ _ | with_reducible refine below_dr ?_ | (refine Below.setCell ?_ (by first | exact Nat.le_refl _ | exact Below.size (w := W1) (B := W1.heap.size) (by assumption)) _)))))
      (fail)
    all_goals
      go_wp2
      go_meet
      case rel => exact ⟨⟨_, rfl, Nat.le_refl _, World.alloc_heap_new W1 _, below_dr (below_al (Below.refl _ _) _)⟩⟩
  case rest =>
    obtain ⟨bk, rfl, hbk, hkk, hbw⟩ := hcut.out; have hSc : St w0 M NA NB T U wc.drew := HS1.out.below (below_dr hbw); obtain ⟨hi1, hi2, hi3⟩ := HT.out; obtain ⟨hj1, hj2, hj3⟩ := HU.out; obtain ⟨b, n, hlk, hbn⟩ := known_look hSc.kn hi1 hj1 HE.out.hA HE.out.hB; rw [hi2, hj2] at hbn; have hBc : Bx g be (be + 1) (.pointer (some ⟨bx, 0, none⟩)) wc := ⟨q13 HBXX.out.h1 hbw, q13 HBXX.out.h2 hbw⟩; have hg0 : wc.heap[g]? = _ := hSc.block HE.out.he HE.out.hg; have c1 : wc.cell? ⟨be, 0, none⟩ = some (.pointer (some ⟨g, 0, none⟩)) := (q4 hBc.h1 0).trans rfl; have c2 : wc.cell? ⟨g, 0, none⟩ = some (.map (some M)) := (q4 hg0 0).trans rfl; have c3 : wc.cell? ⟨bk, 0, none⟩ = some (.int .i64 i) := (q4 hkk 0).trans rfl; have c4 : wc.cell? ⟨bk, 1, none⟩ = some (.int .i64 j) := (q4 hkk 1).trans rfl; have HKK2 := Aside0.mk hkk; have HBW := Aside0.mk hbw; have HSC := Aside0.mk hSc; have HBC := Aside0.mk hBc; have HBN := Aside0.mk hbn; unfold pairV at hlk; clear hcut hkk hbw hSc hi1 hi2 hi3 hj1 hj2 hj3 hbn hBc hg0 x0 x1 y1
    go_wp2_with fail
    go_region_held3 (fun W' => W' = wc.drew ∧ W'.cell? ⟨be, 0, none⟩ = some (.pointer (some ⟨g, 0, none⟩)) ∧ W'.cell? ⟨g, 0, none⟩ = some (.map (some M)) ∧ W'.cell? ⟨bk, 0, none⟩ = some (.int .i64 i) ∧ W'.cell? ⟨bk, 1, none⟩ = some (.int .i64 j))
      ((first | exact ⟨rfl, c1, c2, c3, c4⟩))
      (fail)
    clear hlk c1 c2 c3 c4; have hfrw : Fr W wc.drew (fun i => i = M) := fr_below (Fr.refl _ _) (q12 HB1.out (below_dr HBW.out)); have HFRW := Aside0.mk hfrw; clear hfrw
    cases n with
    | true =>
      have hb := HBN.out rfl; subst hb
      go_wp2_with fail
      go_ret; exact ⟨rfl, HSC.out, HFRW.out⟩
    | false =>
      obtain ⟨hP, hE⟩ := HIMP.out; obtain ⟨W3, hW3⟩ : ∃ W3, W3 = wc.drew := ⟨_, rfl⟩
      have hB3 : Bx g be (be + 1) (.pointer (some ⟨bx, 0, none⟩)) W3 := by rw [hW3]; exact ⟨HBC.out.h1, HBC.out.h2⟩
      have hk3 : W3.heap[bk]? = some (.cells #[.int .i64 i, .int .i64 j] 169 (0, 0)) := by rw [hW3]; exact HKK2.out
      rw [← hW3] at HSC HFRW ⊢
      have hbeM : be ≠ M := by have := HBE.out; omega
      have hbeM1 : be + 1 ≠ M := by have := HBE.out; omega
      have hbkM : bk ≠ M := by have := HB1.out.size; omega
      have hcp := hP _ _ t u i j px py W3 HNX.out HNY.out HT.out HU.out HKK.out HSC.out
      have hlen : u.f2.length ≤ 1048576 := by
        have h1 := HU.out.2.2; have h2 := flat_long u.f2
        rcases Nat.eq_zero_or_pos (flat u.f2).length with h | h
        · omega
        · have h3 := (h1 ((flat u.f2).length - 1) (by omega)).1; have := HE.out.hB
          omega
      have hct := fun W4 (hs : St w0 M NA NB T U W4) (hb : Bx g be (be + 1) (.pointer (some ⟨bx, 0, none⟩)) W4) => cont.calls HE.out hE (.pointer (some ⟨bx, 0, none⟩)) kvy t u.f2 i (j + 1) px py be (be + 1) W4 HNX.out HPY.out HT.out HU.out.2.2 (by have := sizeOf_f2 u; have := HKK.out; omega) hs hb hbeM hbeM1 hlen
      have c1 : W3.cell? ⟨be, 0, none⟩ = some (.pointer (some ⟨g, 0, none⟩)) := (q4 hB3.h1 0).trans rfl; have c2 : W3.cell? ⟨be + 1, 0, none⟩ = some (.pointer (some ⟨bx, 0, none⟩)) := (q4 hB3.h2 0).trans rfl; obtain ⟨r1, hr1⟩ : ∃ r1, r1 = cpl t u := ⟨_, rfl⟩; obtain ⟨r2, hr2⟩ : ∃ r2, r2 = embA t u.f2 := ⟨_, rfl⟩
      have hem : emb t u = (r1 || r2) := by rw [emb, hr1, hr2]
      rw [← hr1] at hcp; have HCP := Aside0.mk hcp; have HCT : Aside0 (∀ W4, St w0 M NA NB T U W4 → Bx g be (be + 1) (.pointer (some ⟨bx, 0, none⟩)) W4 → Calls Try.prog 139 #[kvy, .func (.func 140) #[] #[.pointer (some ⟨be, 0, none⟩), .pointer (some ⟨be + 1, 0, none⟩)]] W4 fun e W' => e = .returned (.bool r2) ∧ St w0 M NA NB T U W' ∧ Fr W4 W' (fun i => i = M)) := ⟨fun W4 hs hb => by rw [hr2]; exact hct W4 hs hb⟩; have HEM := Aside0.mk hem; have HB3 := Aside0.mk hB3; have HK3 := Aside0.mk hk3; clear hP hE hW3 hB3 hk3 hcp hct hem hr1 hr2 HIMP hlen
      go_upto_region 5 with (fail)
      go_cut [10] from 31 to 42 (fun v10 wx => Aside0 (v10 = .bool (r1 || r2) ∧ St w0 M NA NB T U wx ∧ Fr W3 wx (fun i => i = M)))
      case first =>
        cases r1 with
        | true =>
          go_wp2_with (go_at_call 93; refine HCP.out.mono ?_; rintro e w4 ⟨rfl, hs4, hf4⟩; have HS4 := Aside0.mk hs4; have HF4 := Aside0.mk hf4; clear hs4 hf4)
          go_meet
          case rel => exact ⟨⟨rfl, HS4.out, HF4.out⟩⟩
        | false =>
          go_wp2_with (go_at_call 93; refine HCP.out.mono ?_; rintro e w4 ⟨rfl, hs4, hf4⟩; have HS4 := Aside0.mk hs4; have HF4 := Aside0.mk hf4; have hy4 : w4.cell? ⟨by_, 4, none⟩ = some kvy := (q4 (hs4.block HHY.out HBY.out) 4).trans rfl; clear hs4 hf4)
          refine (HCT.out w4 HS4.out (HB3.out.fr HF4.out hbeM hbeM1)).mono ?_; rintro e w5 ⟨rfl, hs5, hf5⟩; have HS5 := Aside0.mk hs5; have HF5 := Aside0.mk (HF4.out.trans hf5); clear hs5 hf5 hy4
          go_wp2_with fail
          go_meet
          case rel => exact ⟨⟨rfl, HS5.out, HF5.out⟩⟩
      case rest =>
        obtain ⟨rfl, hs6, hf6⟩ := hcut.out; have hs6d : St w0 M NA NB T U wc.drew := hs6.below (below_dr (Below.refl _ _)); obtain ⟨hi1, hi2, hi3⟩ := HT.out; obtain ⟨hj1, hj2, hj3⟩ := HU.out; obtain ⟨w7, hup, hkn7, hg7⟩ := known_store hs6d.kn hi1 hj1 HE.out.hA HE.out.hB; rw [hi2, hj2, HEM.out] at hup; have hB6 := HB3.out.fr hf6 hbeM hbeM1; have hk6 : wc.heap[bk]? = _ := (hf6.block bk (blk_lt HK3.out) hbkM).trans HK3.out; have hg0 : wc.heap[g]? = _ := hs6.block HE.out.he HE.out.hg; have d1 : wc.cell? ⟨be, 0, none⟩ = some (.pointer (some ⟨g, 0, none⟩)) := (q4 hB6.h1 0).trans rfl; have d2 : wc.cell? ⟨g, 0, none⟩ = some (.map (some M)) := (q4 hg0 0).trans rfl; have d3 : wc.cell? ⟨bk, 0, none⟩ = some (.int .i64 i) := (q4 hk6 0).trans rfl; have d4 : wc.cell? ⟨bk, 1, none⟩ = some (.int .i64 j) := (q4 hk6 1).trans rfl
        have hne : ∀ b', b' ≠ M → w7.heap[b']? = wc.heap[b']? ∨ wc.heap.size ≤ b' := fun b' hb' => by
          rcases Nat.lt_or_ge b' wc.heap.size with h | h
          · exact .inl (hg7.block b' h (fun e => hb' (by cases e; rfl)))
          · exact .inr h
        have k1 : w7.cell? ⟨be, 0, none⟩ = some (.pointer (some ⟨g, 0, none⟩)) := (q4 ((hg7.block be (blk_lt hB6.h1) (fun e => hbeM (by cases e; rfl))).trans hB6.h1) 0).trans rfl; have k2 : w7.cell? ⟨g, 0, none⟩ = some (.map (some M)) := (q4 ((hg7.block g (blk_lt hg0) (fun e => HE.out.hg (by cases e; rfl))).trans hg0) 0).trans rfl; have k3 : w7.cell? ⟨bk, 0, none⟩ = some (.int .i64 i) := (q4 ((hg7.block bk (blk_lt hk6) (fun e => hbkM (by cases e; rfl))).trans hk6) 0).trans rfl; have k4 : w7.cell? ⟨bk, 1, none⟩ = some (.int .i64 j) := (q4 ((hg7.block bk (blk_lt hk6) (fun e => hbkM (by cases e; rfl))).trans hk6) 1).trans rfl; have hfr7 : Fr wc w7 (fun i => i = M) := ⟨hg7.os, hg7.tape, hg7.output, hg7.size, fun k hk hn => hg7.block k hk (fun e => hn (by cases e; rfl))⟩; have HS7 : Aside0 (St w0 M NA NB T U w7) := ⟨⟨hs6.fr.trans hfr7, hkn7⟩⟩; have HF7 : Aside0 (Fr W w7 (fun i => i = M)) := ⟨(HFRW.out.trans hf6).trans hfr7⟩; unfold pairV at hup; clear hcut hs6 hf6 hs6d hi1 hi2 hi3 hj1 hj2 hj3 hkn7 hg7 hB6 hk6 hg0 hne hfr7 c1 c2
        go_wp2_with fail
        go_region_held3 (fun W' => (W' = wc.drew ∨ W' = w7) ∧ W'.cell? ⟨be, 0, none⟩ = some (.pointer (some ⟨g, 0, none⟩)) ∧ W'.cell? ⟨g, 0, none⟩ = some (.map (some M)) ∧ W'.cell? ⟨bk, 0, none⟩ = some (.int .i64 i) ∧ W'.cell? ⟨bk, 1, none⟩ = some (.int .i64 j))
          ((first | exact ⟨.inl rfl, d1, d2, d3, d4⟩ | exact ⟨.inr rfl, k1, k2, k3, k4⟩))
          (fail)
        go_wp2_with fail
        go_ret; refine ⟨?_, HS7.out, HF7.out⟩; show _ = Ending.returned (.bool (emb t u)); rw [HEM.out]; rfl
end Go.Proofs.Ytjhjhhibbmligaa.TE
end
section
namespace Go.Proofs.Ytjhjhhibbmligaa.TE
open Go.RowKit
set_option linter.unusedVariables false
section
variable {F : Fence} {n : Nat} {P : Program} {w : World}
def SeqW {α : Type} (F : Fence) (n : Nat) (P : Program) (l gf : Nat) (lb : Array Value) (encs : α → Array Value) (R : Nat → World → World → Prop) (Kp : World → World → Prop) (S Sp : List α → Prop) (N : Nat) (W : World) : Prop :=
  ∀ J Jx : List α → World → Prop, (∀ s A B, J s A → R W.heap.size A B → J s B) → (∀ s A B, Jx s A → R W.heap.size A B → Jx s B) →
    (∀ pre x A, J pre A → pre.length < N → YieldAt F (n - 1) P l (encs x) A fun e B => (e = .returned (.bool true) ∧ J (pre ++ [x]) B ∧ Kp A B) ∨ (e = .returned (.bool false) ∧ Jx (pre ++ [x]) B)) →
    J [] W → CallsIn F n P gf (#[.func (.yield l) #[] #[]] ++ lb) W fun e B => (∃ v, e = .returned v) ∧ ((∃ xs, S xs ∧ J xs B) ∨ ∃ pre, Sp pre ∧ Jx pre B)
theorem wpIn_rangeFunc_W {α : Type} {g : Operand} {ps : Array Tmp} {assign body : Code} {Q : Exit → Act → World → Prop} {a : Act}
    (hro : F.round = none) (h1 : 1 ≤ n) {gf : Nat} {lb : Array Value} (hg : a.eval g = .func (.func gf) #[] lb) (hFg : F.fn gf) (eg : ∀ args w, (callFunc gf args).run P w = .ok (.enter gf args) w)
    {encs : α → Array Value} {R : Nat → World → World → Prop} {Kp : World → World → Prop} {S Sp : List α → Prop} {N : Nat}
    (hseq : ∀ W1, Below w.heap.size w W1 → W1.heap.size = w.heap.size + 2 → SeqW F (n - 1) P (w.heap.size + 1) gf lb encs R Kp S Sp N W1)
    (hRo : ∀ H A B k o, R H A B → w.heap.size ≤ k → k < H → A.heap[k]? = some o → B.heap[k]? = some o)
    (hKt : ∀ {A B C : World}, Kp A B → Kp B C → Kp A C) (hKb : ∀ (W : World) (l : Nat) (o o' : Obj), w.heap.size ≤ l → W.heap[l]? = some o → o.isCells = false → o.isWalk = false → Kp W (W.putObj l o')) (hps : ∀ x, (encs x).size = ps.size)
    (I : List α → World → Prop) (Ix : Code → List α → World → Prop) (hI : OwnFrom w.heap.size I) (hIx : ∀ c, OwnFrom w.heap.size (Ix c))
    (hIR : ∀ s H A B, w.heap.size ≤ H → I s A → R H A B → I s B) (hIxR : ∀ c s H A B, w.heap.size ≤ H → Ix c s A → R H A B → Ix c s B) (h0 : I [] w)
    (Ax : α → Act → World → Prop) (hAx : ∀ x a', OwnFrom w.heap.size (fun (_ : Unit) W => Ax x a' W))
    (hassign : ∀ (l : Nat) (pre : List α) (x : α) (W : World) (K : Act → World → Prop), I pre W → (∀ a' W', KeepsFrom w.heap.size W W' → Kp W W' → I pre W' → Ax x a' W' → K a' W') →
      assign.wpIn (F.inRound l) (n - 1 - 1) P (Exit.then K (fun _ _ _ => False)) { tmps := (ps.zip (encs x)).foldl (fun t (p, v) => t.setIfInBounds p v) a.tmps, defers := [] } W)
    (hbody : ∀ (l : Nat) (pre : List α) (x : α) (a' : Act) (W : World), w.heap.size ≤ l → (∃ r, W.heap[l]? = some (.loop r)) → I pre W → Ax x a' W → pre.length < N → body.wpIn (F.inRound l) (n - 1 - 1) P (ownPostG w.heap.size Kp I Ix (pre ++ [x]) W) a' W)
    (hdone : ∀ (D : Nat) (xs : List α) (W : World), w.heap.size ≤ D → S xs → I xs W → W.heap[D]? = some (.deferred (some [])) → Q .normal { a with defers := { target := .collected D, args := #[] } :: a.defers } W)
    (hstop : ∀ (D : Nat) (c : Code) (pre : List α) (W : World), w.heap.size ≤ D → Sp pre → Ix c pre W → W.heap[D]? = some (.deferred (some [])) → c.wpIn F n P Q { a with defers := { target := .collected D, args := #[] } :: a.defers } W) :
    (Code.rangeFunc g ps assign body).wpIn F n P Q a w := by
  refine wpIn_rangeFunc fun fn hfn => ?_
  rw [hro]
  obtain ⟨rec, hrec⟩ : ∃ rec : LoopState → Option Code → Loop, rec = fun st pe => { state := st, pending := pe, fn, tmps := a.tmps, params := ps, assign, body, defers := w.heap.size } := ⟨_, rfl⟩
  obtain ⟨W1, hW1⟩ : ∃ W1, (w.alloc (.deferred (some []))).alloc (.loop (rec .ready none)) = W1 := ⟨_, rfl⟩
  have hL1 : W1.heap[w.heap.size + 1]? = some (.loop (rec .ready none)) := by
    rw [← hW1]; have := World.alloc_heap_new (w.alloc (.deferred (some []))) (.loop (rec .ready none)); rwa [World.size_alloc] at this
  have hK1 : W1.heap[w.heap.size]? = some (.deferred (some [])) := by rw [← hW1]; exact (Below.heap_alloc _ _ _ (by simp)).trans (World.alloc_heap_new w _)
  have hI1 : I [] W1 := by rw [← hW1]; exact hI.alloc _ (hI.alloc _ h0)
  have hb1 : Below w.heap.size w W1 := by rw [← hW1]; exact ((Below.refl _ w).alloc (Nat.le_refl _) _).alloc (by simp) _
  have hz1 : W1.heap.size = w.heap.size + 2 := by rw [← hW1]; simp
  refine ⟨w.heap.size + 1, [{ target := .collected w.heap.size, args := #[] }], W1, { target := .fn (.func gf) lb, args := #[.func (.yield (w.heap.size + 1)) #[] #[]] }, W1, gf,
    #[.func (.yield (w.heap.size + 1)) #[] #[]] ++ lb, W1, (by rw [← hW1, hrec]; exact run_enterLoop_outer _ _ _ _ _), (by simp only [resolve, hg]; simp [go_sem]), (fun f' hf' => by simp [Target.leads] at hf'; subst hf'; exact hFg), (by simp [invoke, go_sem, eg]), fun _ => h1, ?_⟩
  have hle : w.heap.size ≤ W1.heap.size := by omega
  refine (hseq W1 hb1 hz1 (fun pre W => I pre W ∧ W.heap[w.heap.size + 1]? = some (.loop (rec .ready none)) ∧ W.heap[w.heap.size]? = some (.deferred (some [])))
    (fun pre W => ∃ c, Ix c pre W ∧ W.heap[w.heap.size + 1]? = some (.loop (rec .done (some c))) ∧ W.heap[w.heap.size]? = some (.deferred (some [])))
    (fun s A B hs hr => ⟨hIR s _ A B hle hs.1 hr, hRo _ A B _ _ hr (by omega) (by omega) hs.2.1, hRo _ A B _ _ hr (Nat.le_refl _) (by omega) hs.2.2⟩)
    (fun s A B ⟨c, hc, hl, hk⟩ hr => ⟨c, hIxR c s _ A B hle hc hr, hRo _ A B _ _ hr (by omega) (by omega) hl, hRo _ A B _ _ hr (Nat.le_refl _) (by omega) hk⟩)
    ?_ ⟨hI1, hL1, hK1⟩).mono ?_
  · rintro pre x W ⟨hi, hl, hk⟩ hlen; have hy := run_yield (P := P) (args := encs x) hl (by rw [hrec]; exact hps x); rw [hrec] at hy; refine ⟨fn, _, assign, body, hy, roundIn_of_wpIn hfn (hassign _ pre x W _ hi ?_)⟩; intro a' V hkf hkp hiv hax; have hl' := hkf.same _ _ (by omega) hl rfl; have hk' := hkf.same _ _ (Nat.le_refl _) hk rfl; have hlt : w.heap.size + 1 < V.heap.size := (Array.getElem?_eq_some_iff.1 hl').1; refine ⟨_, run_beginRound hl' (by rw [hrec]), ?_⟩; have hl2 : (V.putObj (w.heap.size + 1) (.loop { rec .ready none with state := .busy })).heap[w.heap.size + 1]? = some (.loop { rec .ready none with state := .busy }) := World.putObj_heap_same hlt; have hk2 : (V.putObj (w.heap.size + 1) (.loop { rec .ready none with state := .busy })).heap[w.heap.size]? = some (.deferred (some [])) := (World.putObj_heap_other (by omega)).trans hk'; have hw2 : Kp V (V.putObj (w.heap.size + 1) (.loop { rec .ready none with state := .busy })) := hKb _ _ _ _ (by omega) hl' rfl rfl; refine wpIn_mono (hbody _ pre x a' _ (by omega) ⟨_, hl2⟩ (hI.putObj _ hiv (by omega) hl' rfl) ((hAx x a').putObj (s := ()) _ hax (by omega) hl' rfl) hlen) ?_; have fin : ∀ (jump : Option Code) (W3 : World), KeepsFrom w.heap.size (V.putObj (w.heap.size + 1) (.loop { rec .ready none with state := .busy })) W3 →
        (Instr.endRound (w.heap.size + 1) jump).run P W3 = .ok (.bool jump.isNone) (W3.putObj (w.heap.size + 1) (.loop (rec (if jump.isNone then .ready else .done) jump))) ∧
        W3.heap[w.heap.size + 1]? = some (.loop { rec .ready none with state := .busy }) ∧
        (W3.putObj (w.heap.size + 1) (.loop (rec (if jump.isNone then .ready else .done) jump))).heap[w.heap.size + 1]? = some (.loop (rec (if jump.isNone then .ready else .done) jump)) ∧
        (W3.putObj (w.heap.size + 1) (.loop (rec (if jump.isNone then .ready else .done) jump))).heap[w.heap.size]? = some (.deferred (some [])) := fun jump W3 hk3 => by
      have hl3 := hk3.same _ _ (by omega) hl2 rfl; have := run_endRound (P := P) jump hl3; rw [hrec] at this ⊢; exact ⟨this, by rw [hrec] at hl3; exact hl3, World.putObj_heap_same (Array.getElem?_eq_some_iff.1 hl3).1, (World.putObj_heap_other (by omega)).trans (hk3.same _ _ (Nat.le_refl _) hk2 rfl)⟩
    have away : ∀ (c : Code) (W3 : World), KeepsFrom w.heap.size (V.putObj (w.heap.size + 1) (.loop { rec .ready none with state := .busy })) W3 → Ix c (pre ++ [x]) W3 → ∃ c', Ix c' (pre ++ [x]) (W3.putObj (w.heap.size + 1) (.loop (rec .done (some c)))) ∧ (W3.putObj (w.heap.size + 1) (.loop (rec .done (some c)))).heap[w.heap.size + 1]? = some (.loop (rec .done (some c'))) ∧ (W3.putObj (w.heap.size + 1) (.loop (rec .done (some c)))).heap[w.heap.size]? = some (.deferred (some [])) := fun c W3 hk3 hi3 => by
      obtain ⟨_, hl3, hl4, hk4⟩ := fin (some c) W3 hk3; exact ⟨c, (hIx _).putObj _ hi3 (by omega) hl3 rfl, hl4, hk4⟩
    rintro e a3 W3 hp
    cases e with
    | normal =>
      obtain ⟨hk3, hkp3, hi3⟩ := hp; obtain ⟨hr, hl3, hl4, hk4⟩ := fin none W3 hk3; exact ⟨_, _, hr, .inl ⟨rfl, ⟨hI.putObj _ hi3 (by omega) hl3 rfl, hl4, hk4⟩, hKt hkp (hKt (hKt hw2 hkp3) (hKb _ _ _ _ (by omega) hl3 rfl rfl))⟩⟩
    | ret => exact ⟨_, _, (fin (some .ret) W3 hp.1).1, .inr ⟨rfl, away _ W3 hp.1 hp.2⟩⟩
    | exit id => exact ⟨_, _, (fin (some (.exit id)) W3 hp.1).1, .inr ⟨rfl, away _ W3 hp.1 hp.2⟩⟩
    | goto t => exact ⟨_, _, (fin (some (.goto t)) W3 hp.1).1, .inr ⟨rfl, away _ W3 hp.1 hp.2⟩⟩
    | panic ch => exact hp.elim
    | outgrown => exact hp.elim
  · rintro e W2 ⟨⟨v, rfl⟩, (⟨xs, hS, hi, hl, hk⟩ | ⟨pre, hSp, c, hi, hl, hk⟩)⟩
    · exact ⟨none, _, by have := run_endLoop (P := P) hl (by rw [hrec]; simp); rw [hrec] at this; exact this, hdone _ xs _ (Nat.le_refl _) hS (hI.putObj _ hi (by omega) hl rfl) ((World.putObj_heap_other (by omega)).trans hk)⟩
    · exact ⟨some c, _, by have := run_endLoop (P := P) hl (by rw [hrec]; simp); rw [hrec] at this; exact this, hstop _ c pre _ (Nat.le_refl _) hSp ((hIx c).putObj _ hi (by omega) hl rfl) ((World.putObj_heap_other (by omega)).trans hk)⟩
end
end Go.Proofs.Ytjhjhhibbmligaa.TE
end
section
namespace Go.Proofs.Ytjhjhhibbmligaa.TE
open Go.RowKit Go.Shelf Go.Proofs.YtjhjhhibbmligaaW.PrintWords Go.Proofs.YtjhjhhibbmligaaW.PrintLast Go.Proofs.YtjhjhhibbmligaaW.PrintMore Go.Proofs.Ytjhjhhibbmligaa.Evs
set_option linter.unusedVariables false
set_option linter.unusedSimpArgs false
section
attribute [local go_sem] Oper.semAt_some
structure KpE (w0 : World) (M NA NB : Nat) (T U : Nat → Tm) (m : Nat) (A B : World) : Prop where
  size : A.heap.size ≤ B.heap.size
  cells : ∀ k cs t fr, m ≤ k → A.heap[k]? = some (.cells cs t fr) → B.heap[k]? = some (.cells cs t fr)
  st : St w0 M NA NB T U A → St w0 M NA NB T U B
def RE (w0 : World) (M NA NB : Nat) (T U : Nat → Tm) (_ : Nat) (A B : World) : Prop := Fr A B (fun i => i = M) ∧ (St w0 M NA NB T U A → St w0 M NA NB T U B)
def enc2 (p : Int × Int) : Array Value := #[.int .i64 p.1, .int .i64 p.2]
theorem enters_pl : ∀ args w, (callFunc 138 args).run Try.prog w = .ok (.enter 138 args) w := enters_of Try.func138 (by kernel_rfl) rfl
structure Bp (ba bb be : Nat) (va vb ve : Value) (W : World) : Prop where
  h1 : W.heap[ba]? = some (.cells #[va] 91 (0, 0))
  h2 : W.heap[bb]? = some (.cells #[vb] 91 (0, 0))
  h3 : W.heap[be]? = some (.cells #[ve] 92 (0, 0))
theorem Bp.fr {ba bb be M : Nat} {va vb ve : Value} {W W' : World} (h : Bp ba bb be va vb ve W) (hf : Fr W W' (fun i => i = M)) (h1 : M < ba) (h2 : M < bb) (h3 : M < be) : Bp ba bb be va vb ve W' :=
  ⟨(hf.block ba (blk_lt h.h1) (by omega)).trans h.h1, (hf.block bb (blk_lt h.h2) (by omega)).trans h.h2, (hf.block be (blk_lt h.h3) (by omega)).trans h.h3⟩
theorem plc_here {us : List Tm} {t : Tm} {r : List Tm} {q k : Nat} (h : atP t us k < us.length) : plc us (t :: r) q k = ((q : Int), (atP t us k : Int)) :: plc us r (q + 1) (atP t us k + 1) := by rw [plc, if_pos h]
theorem plc_none {us : List Tm} {t : Tm} {r : List Tm} {q k : Nat} (h : ¬ atP t us k < us.length) : plc us (t :: r) q k = [] := by rw [plc, if_neg h]
theorem PL.elem {w0 W : World} {M NA NB : Nat} {T U : Nat → Tm} {ok : Nat → Prop} {A : Option Addr} {n c : Nat} {ts : List Tm} {vs : List Value} (ho : w0.ownsRow 0 100 1 (.slice A n c) ts.length vs) (hoo : ∀ k, (Value.slice A n c).ownBlock = some k → ok k) (hok : ∀ k, ok k → k ≠ M) (hs : St w0 M NA NB T U W) (q : Nat) (hq : q < ts.length) : ∃ b, A = some ⟨b, 0, none⟩ ∧ W.cell? ⟨b, q, none⟩ = some (vs.getD q (.bool false)) := by
  have hvl : q < vs.length := by have := ho.1; omega
  rcases ho.2 with ⟨e, h0⟩ | ⟨b, cap, cur, e, _, hh, r⟩
  · omega
  · injection e with e1 e2 e3
    subst e1; refine ⟨b, rfl, ?_⟩; have h3 := ho.cells rfl q (vs.getD q (.bool false)) (by rw [List.getElem?_eq_getElem hvl, List.getD_eq_getElem?_getD, List.getElem?_eq_getElem hvl]; rfl); have hbk : ok b := hoo b rfl; rw [add_plain] at h3; exact (World.cell?_of_block (w := w0) (hs.fr.block b (Array.getElem?_eq_some_iff.1 hh).1 (hok b hbk))).trans h3
set_option maxRecDepth 100000 in
set_option maxHeartbeats 4000000 in
theorem places_seq {w0 : World} {g M NA NB : Nat} {T U : Nat → Tm} {ok : Nat → Prop} {k : Nat} (E : Ex w0 g M NA NB T U ok) (hE : EmbC w0 g M NA NB T U ok k) (A1 A2 : Option Addr) (c1 c2 : Nat) (ts us : List Tm) (i j : Nat) (px py : List Int)
    (hx : PL w0 ok (.slice A1 ts.length c1) ts i px) (hy : PL w0 ok (.slice A2 us.length c2) us j py) (hT : SubL T NA i ts) (hU : SubL U NB j us) (hk : SizeOf.sizeOf ts + SizeOf.sizeOf us ≤ k + 1) (m ba bb be : Nat) (h1 : m ≤ ba) (h2 : m ≤ bb) (h3 : m ≤ be) (hm : w0.heap.size ≤ m)
    (hlx : ts.length ≤ 1048576) (hly : us.length ≤ 1048576) (W : World) (hS : St w0 M NA NB T U W) (hB : Bp ba bb be (.slice A1 ts.length c1) (.slice A2 us.length c2) (.pointer (some ⟨g, 0, none⟩)) W) (l n : Nat) :
    SeqW Fence.wide n Try.prog l 138 #[.pointer (some ⟨ba, 0, none⟩), .pointer (some ⟨bb, 0, none⟩), .pointer (some ⟨be, 0, none⟩)] enc2 (RE w0 M NA NB T U) (KpE w0 M NA NB T U m) (fun xs => xs = plc us ts 0 0) (fun pre => pre <+: plc us ts 0 0) ts.length W := by
  intro J Jx hJ hJx hY h0; obtain ⟨vsx, hox, hoox, hnx⟩ := hx; obtain ⟨vsy, hoy, hooy, hny⟩ := hy
  have hM1 : M < ba := by have := E.hM; omega
  have hM2 : M < bb := by have := E.hM; omega
  have hM3 : M < be := by have := E.hM; omega
  have hcx := fun W' (hs : St w0 M NA NB T U W') q hq => PL.elem hox hoox E.hok hs q hq
  have hcy := fun W' (hs : St w0 M NA NB T U W') q hq => PL.elem hoy hooy E.hok hs q hq
  have hemb := fun q (hq : q < ts.length) r (hr : r < us.length) W' (hs : St w0 M NA NB T U W') => hE _ _ ts[q] us[r] _ _ _ _ W' (hnx q hq) (hny r hr) (hT.get q hq) (hU.get r hr) (by have := List.sizeOf_lt_of_mem (List.getElem_mem hq); have := List.sizeOf_lt_of_mem (List.getElem_mem hr); omega) hs
  have HCX := Aside0.mk hcx; have HCY := Aside0.mk hcy; have HEMB := Aside0.mk hemb; have HJ := Aside0.mk hJ; have HJX := Aside0.mk hJx; have HY := Aside0.mk hY; have H0 := Aside0.mk h0; have HS := Aside0.mk hS; have HB := Aside0.mk hB; have b1 : W.cell? ⟨ba, 0, none⟩ = some (.slice A1 ts.length c1) := (q4 hB.h1 0).trans rfl; clear hcx hcy hemb hJ hJx hY h0 hS hB hox hoox hnx hoy hooy hny hT hU hk hE E; refine callsIn_of_wp Try.func138 rfl trivial ?_ rfl; simp only [Try.ntmps138, List.size_toArray, List.length_cons, List.length_nil, Nat.reduceAdd, Nat.reduceSub, Array.replicate_succ, Array.replicate_zero, List.push_toArray, List.append_toArray, List.nil_append, List.cons_append]
  gi_wp2
  clear b1
  gi_loopw [5, 10] (fun at_ i wr => ∃ (q k2 : Nat) (pre : List (Int × Int)), i = .int .i64 q ∧ at_ = .int .i64 k2 ∧ q ≤ ts.length ∧ k2 ≤ us.length ∧ Aside0 (pre.length = q) ∧ Aside0 (pre ++ plc us (ts.drop q) q k2 = plc us ts 0 0) ∧ Aside0 (J pre wr) ∧ Aside0 (St w0 M NA NB T U wr) ∧ Aside0 (Bp ba bb be (.slice A1 ts.length c1) (.slice A2 us.length c2) (.pointer (some ⟨g, 0, none⟩)) wr)) (fun at_ i wr => ts.length - (intOf i).toNat)
  case atStart => exact ⟨0, 0, [], rfl, rfl, Nat.zero_le _, Nat.zero_le _, ⟨rfl⟩, ⟨by rw [List.drop_zero]; rfl⟩, H0, HS, HB⟩
  case round =>
    obtain ⟨q, k2, pre, rfl, rfl, hq, hk2, HPL, HPRE, HJr, HSr, HBr⟩ := hrel
    by_cases hlt : q < ts.length
    · have hlb : decide ((q : Int) < (ts.length : Int)) = true := by simp; omega
      obtain ⟨b, rfl, hc⟩ := HCX.out wr HSr.out q hlt; obtain ⟨x, hx⟩ : ∃ x, x = vsx.getD q (.bool false) := ⟨_, rfl⟩; have hq0 : (0 : Int) ≤ (q : Int) := Int.natCast_nonneg _
      have hql : (q : Int) < (ts.length : Int) := by omega
      obtain ⟨t, ht⟩ : ∃ t, t = ts[q] := ⟨_, rfl⟩
      have hpd : plc us (ts.drop q) q k2 = plc us (t :: ts.drop (q + 1)) q k2 := by rw [List.drop_eq_getElem_cons hlt, ht]
      rw [← hx] at hc; have HPD := Aside0.mk hpd; have HX := Aside0.mk hx; have HTT := Aside0.mk ht; clear hpd hx ht
      gi_wp2
      gi_loopw [5] (fun at_ wr2 => ∃ k3 : Nat, at_ = .int .i64 k3 ∧ k3 ≤ us.length ∧ Aside0 (atP t us k2 = atP t us k3) ∧ Aside0 (J pre wr2) ∧ Aside0 (St w0 M NA NB T U wr2) ∧ Aside0 (Bp ba bb be (.slice (some ⟨b, 0, none⟩) ts.length c1) (.slice A2 us.length c2) (.pointer (some ⟨g, 0, none⟩)) wr2)) (fun at_ wr2 => us.length - (intOf at_).toNat)
      case atStart => exact ⟨k2, rfl, hk2, ⟨rfl⟩, HJr, HSr, HBr⟩
      case round =>
        obtain ⟨k3, rfl, hk3, HAT, HJ2, HS2, HB2⟩ := hrel; have hk0 : (0 : Int) ≤ (k3 : Int) := Int.natCast_nonneg _
        by_cases hl3 : k3 < us.length
        · have hlb3 : decide ((k3 : Int) < (us.length : Int)) = true := by simp; omega
          have hkl : (k3 : Int) < (us.length : Int) := by omega
          have hsd : St w0 M NA NB T U wr.drew := HS2.out.below (below_dr (Below.refl _ _)); have hbd : Bp ba bb be (.slice (some ⟨b, 0, none⟩) ts.length c1) (.slice A2 us.length c2) (.pointer (some ⟨g, 0, none⟩)) wr.drew := ⟨HB2.out.h1, HB2.out.h2, HB2.out.h3⟩; obtain ⟨b2, rfl, hc2⟩ := HCY.out wr HS2.out k3 hl3; have hcall := HEMB.out q hlt k3 hl3 wr.drew hsd
          have hcy4 := fun W' hs => HCY.out W' hs k3 hl3
          obtain ⟨y, hy⟩ : ∃ y, y = vsy.getD k3 (.bool false) := ⟨_, rfl⟩; obtain ⟨r, hr⟩ : ∃ r, r = emb ts[q] us[k3] := ⟨_, rfl⟩; rw [← hr, ← hy, ← HX.out] at hcall; rw [← hy] at hc2 hcy4; have c1_ : wr.cell? ⟨bb, 0, none⟩ = some (.slice (some ⟨b2, 0, none⟩) us.length c2) := (q4 HB2.out.h2 0).trans rfl; have c2_ : wr.cell? ⟨be, 0, none⟩ = some (.pointer (some ⟨g, 0, none⟩)) := (q4 HB2.out.h3 0).trans rfl; have HCALL := Aside0.mk hcall; have HCY4 := Aside0.mk hcy4; have HR := Aside0.mk hr; have HBD := Aside0.mk hbd; clear hcall hcy4 hr hy hsd hbd
          cases r with
          | true =>
            gi_wp2
            refine wpIn_wide.2 ?_
            go_region_held3 (fun W' => W'.cell? ⟨bb, 0, none⟩ = some (.slice (some ⟨b2, 0, none⟩) us.length c2) ∧ W'.cell? ⟨be, 0, none⟩ = some (.pointer (some ⟨g, 0, none⟩)) ∧ W'.cell? ⟨b2, k3, none⟩ = some y)
              ((first | exact ⟨c1_, c2_, hc2⟩ | exact ⟨z1.out, z2.out, z3.out⟩))
              (first | (go_at_call 96; go_split_ands; refine HCALL.out.mono ?_; rintro e w4 ⟨rfl, hs4, hf4⟩; have HS4 := Aside0.mk hs4; have HF4 := Aside0.mk hf4; have HB4 := Aside0.mk (HBD.out.fr hf4 hM1 hM2 hM3); have z1 : Aside0 (w4.cell? ⟨bb, 0, none⟩ = some (.slice (some ⟨b2, 0, none⟩) us.length c2)) := ⟨(q4 HB4.out.h2 0).trans rfl⟩; have z2 : Aside0 (w4.cell? ⟨be, 0, none⟩ = some (.pointer (some ⟨g, 0, none⟩))) := ⟨(q4 HB4.out.h3 0).trans rfl⟩; have z3 : Aside0 (w4.cell? ⟨b2, k3, none⟩ = some y) := ⟨(by obtain ⟨b', e, h⟩ := HCY4.out w4 hs4; injection e with e; injection e with e; rw [e]; exact h)⟩; clear hs4 hf4))
            have hat : atP t us k2 = k3 := by
              have h1 := HAT.out; rw [h1, atP, dif_pos hl3, if_pos]; rw [HTT.out, ← HR.out]
            have hpn : pre ++ [((q : Int), (k3 : Int))] ++ plc us (ts.drop (q + 1)) (q + 1) (k3 + 1) = plc us ts 0 0 := by
              rw [← HPRE.out, HPD.out, plc_here (by rw [hat]; exact hl3), hat, List.append_assoc]; rfl
            have hJ4 : J pre w4 := HJ.out pre wr w4 HJ2.out ⟨⟨HF4.out.os, HF4.out.tape, HF4.out.output, HF4.out.size, HF4.out.block⟩, fun _ => HS4.out⟩; obtain ⟨fn, tmps, assign, body, hyr, hR⟩ := HY.out pre ((q : Int), (k3 : Int)) w4 hJ4 (by rw [HPL.out]; exact hlt)
            dsimp only [enc2] at hyr
            have hdd : ∀ k : Nat, (Fence.wide.depth.isSome = true → 1 ≤ k) := fun k h => by simp [Fence.wide] at h
            have e1 : ((k3 : Int) == (us.length : Int)) = false := by simp; omega
            have HPN := Aside0.mk hpn; clear hat hpn hJ4
            gi_wp2_with ((try refine ⟨hdd _, ?_⟩); refine (round_any hR).mono ?_; clear hR; rintro e W2 (⟨rfl, hj5, hk5⟩ | ⟨rfl, hj5⟩))
            · have HJ5 := Aside0.mk hj5; have HK5 := Aside0.mk hk5; clear hj5 hk5 hyr
              gi_wp2
              go_roundw
              case rel => exact ⟨q + 1, k3 + 1, pre ++ [((q : Int), (k3 : Int))], by go_num, by go_num, by omega, by omega, ⟨by rw [List.length_append, HPL.out]; rfl⟩, HPN, HJ5, ⟨HK5.out.st HS4.out⟩, ⟨⟨HK5.out.cells _ _ _ _ h1 HB4.out.h1, HK5.out.cells _ _ _ _ h2 HB4.out.h2, HK5.out.cells _ _ _ _ h3 HB4.out.h3⟩⟩⟩
              case measure => simp [intOf]; omega
            · have HJ5 := Aside0.mk hj5; clear hj5 hyr
              gi_wp2
              exact bodyPost_ret (results_none rfl _ _ _) rfl ⟨⟨_, rfl⟩, .inr ⟨_, ⟨_, HPN.out⟩, HJ5.out⟩⟩
          | false =>
            gi_wp2
            refine wpIn_wide.2 ?_
            go_region_held3 (fun W' => W'.cell? ⟨bb, 0, none⟩ = some (.slice (some ⟨b2, 0, none⟩) us.length c2) ∧ W'.cell? ⟨be, 0, none⟩ = some (.pointer (some ⟨g, 0, none⟩)) ∧ W'.cell? ⟨b2, k3, none⟩ = some y)
              ((first | exact ⟨c1_, c2_, hc2⟩ | exact ⟨z1.out, z2.out, z3.out⟩))
              (first | (go_at_call 96; go_split_ands; refine HCALL.out.mono ?_; rintro e w4 ⟨rfl, hs4, hf4⟩; have HS4 := Aside0.mk hs4; have HF4 := Aside0.mk hf4; have HB4 := Aside0.mk (HBD.out.fr hf4 hM1 hM2 hM3); have z1 : Aside0 (w4.cell? ⟨bb, 0, none⟩ = some (.slice (some ⟨b2, 0, none⟩) us.length c2)) := ⟨(q4 HB4.out.h2 0).trans rfl⟩; have z2 : Aside0 (w4.cell? ⟨be, 0, none⟩ = some (.pointer (some ⟨g, 0, none⟩))) := ⟨(q4 HB4.out.h3 0).trans rfl⟩; have z3 : Aside0 (w4.cell? ⟨b2, k3, none⟩ = some y) := ⟨(by obtain ⟨b', e, h⟩ := HCY4.out w4 hs4; injection e with e; injection e with e; rw [e]; exact h)⟩; clear hs4 hf4))
            have hat : atP t us k2 = atP t us (k3 + 1) := by
              have h1 := HAT.out; rw [h1]
              conv => lhs; rw [atP]
              rw [dif_pos hl3, if_neg]; rw [HTT.out, ← HR.out]; decide
            have hJ4 : J pre w4 := HJ.out pre wr w4 HJ2.out ⟨⟨HF4.out.os, HF4.out.tape, HF4.out.output, HF4.out.size, HF4.out.block⟩, fun _ => HS4.out⟩; have HAT4 := Aside0.mk hat; have HJ4 := Aside0.mk hJ4; clear hat hJ4
            gi_wp2
            go_roundw
            case rel => exact ⟨k3 + 1, by go_num, by omega, HAT4, HJ4, HS4, HB4⟩
            case measure => simp [intOf]; omega
        · obtain rfl : k3 = us.length := by omega
          have hlb3 : decide ((us.length : Int) < (us.length : Int)) = false := by simp
          have hlb3' : decide (us.length < us.length) = false := by simp
          have c1_ : wr.cell? ⟨bb, 0, none⟩ = some (.slice A2 us.length c2) := (q4 HB2.out.h2 0).trans rfl
          have hpn : plc us ts 0 0 = pre := by
            rw [← HPRE.out, HPD.out, plc_none, List.append_nil]; rw [HAT.out, atP, dif_neg (Nat.lt_irrefl _)]; exact Nat.lt_irrefl _
          have HPN := Aside0.mk hpn; clear hpn
          gi_wp2
          refine wpIn_wide.2 ?_
          go_quiet (fail)
          have hJ4 : J pre (wr.drewN nq) := HJ.out pre wr _ HJ2.out ⟨⟨rfl, rfl, rfl, Nat.le_refl _, fun _ _ _ => rfl⟩, fun hs => hs.below ⟨rfl, rfl, rfl, Nat.le_refl _, fun _ _ => rfl⟩⟩; have HJ4 := Aside0.mk hJ4; clear hJ4
          have e1 : ((us.length : Int) == (us.length : Int)) = true := by simp
          gi_wp2
          refine ⟨fun _ h => (by cases h), ?_⟩
          gi_wp2
          exact bodyPost_ret (results_none rfl _ _ _) rfl ⟨⟨_, rfl⟩, .inl ⟨_, rfl, by rw [HPN.out]; exact HJ4.out⟩⟩
    · obtain rfl : q = ts.length := by omega
      have hlb : decide ((ts.length : Int) < (ts.length : Int)) = false := by simp
      have hpn : plc us ts 0 0 = pre := by rw [← HPRE.out, List.drop_length]; simp [plc]
      have HPN := Aside0.mk hpn; clear hpn
      gi_wp2
      go_end0
      exact ⟨⟨_, rfl⟩, .inl ⟨_, rfl, by rw [HPN.out]; exact HJr.out⟩⟩
end
end Go.Proofs.Ytjhjhhibbmligaa.TE
end
section
namespace Go.Proofs.Ytjhjhhibbmligaa.TE
open Go.RowKit Go.Shelf Go.Proofs.YtjhjhhibbmligaaW.PrintWords Go.Proofs.YtjhjhhibbmligaaW.PrintLast Go.Proofs.YtjhjhhibbmligaaW.PrintMore Go.Proofs.Ytjhjhhibbmligaa.Evs
set_option linter.unusedVariables false
set_option linter.unusedSimpArgs false
section
attribute [local go_sem] Oper.semAt_some
theorem KpE.refl (w0 : World) (M NA NB : Nat) (T U : Nat → Tm) (m : Nat) (A : World) : KpE w0 M NA NB T U m A A := ⟨Nat.le_refl _, fun _ _ _ _ _ h => h, id⟩
theorem KpE.trans {w0 : World} {M NA NB : Nat} {T U : Nat → Tm} {m : Nat} {A B C : World} (h : KpE w0 M NA NB T U m A B) (k : KpE w0 M NA NB T U m B C) : KpE w0 M NA NB T U m A C :=
  ⟨Nat.le_trans h.size k.size, fun i cs t fr hi hc => k.cells i cs t fr hi (h.cells i cs t fr hi hc), fun hs => k.st (h.st hs)⟩
theorem St.grown {w0 : World} {M NA NB : Nat} {T U : Nat → Tm} {W W' : World} {row : Option Nat} (h : St w0 M NA NB T U W) (hg : W.grownBy W' row) (hr : ∀ b, row = some b → w0.heap.size ≤ b) (hM : M < w0.heap.size) : St w0 M NA NB T U W' :=
  ⟨⟨hg.os.trans h.fr.os, hg.tape.trans h.fr.tape, hg.output.trans h.fr.output, Nat.le_trans h.fr.size hg.size, fun k hk hn => (hg.block k (Nat.lt_of_lt_of_le hk h.fr.size) (fun e => by have := hr k e.symm; omega)).trans (h.fr.block k hk hn)⟩, h.kn.grown hg (fun e => by have := hr M e.symm; omega)⟩
set_option maxRecDepth 100000 in
set_option maxHeartbeats 4000000 in
theorem places.calls (g : Nat) (A1 A2 : Option Addr) (n1 n2 c1 c2 : Nat) (W : World) :
    Calls Try.prog 92 #[.pointer (some ⟨g, 0, none⟩), .slice A1 n1 c1, .slice A2 n2 c2] W fun e W' => e = .returned (.func (.func 138) #[] #[.pointer (some ⟨W.heap.size + 1, 0, none⟩), .pointer (some ⟨W.heap.size + 1 + 1, 0, none⟩), .pointer (some ⟨W.heap.size, 0, none⟩)]) ∧
      W' = ((W.alloc (.cells #[.pointer (some ⟨g, 0, none⟩)] 92)).alloc (.cells #[.slice A1 n1 c1] 91)).alloc (.cells #[.slice A2 n2 c2] 91) := by
  go_enter Try.func92, Try.ntmps92
  go_wp2
  go_ret; exact ⟨rfl, rfl⟩
set_option maxRecDepth 100000 in
set_option maxHeartbeats 4000000 in
theorem lists_of {w0 : World} {g M NA NB : Nat} {T U : Nat → Tm} {ok : Nat → Prop} (E : Ex w0 g M NA NB T U ok) {k : Nat} (hE : EmbC w0 g M NA NB T U ok k) : LisC w0 g M NA NB T U ok (k + 1) := by
  intro va vb ts us i j px py W hx hy hT hU hk hS
  obtain ⟨A1, c1, rfl⟩ : ∃ A c, va = .slice A ts.length c := by obtain ⟨_, ho, _⟩ := hx; exact own_formN ho
  obtain ⟨A2, c2, rfl⟩ : ∃ A c, vb = .slice A us.length c := by obtain ⟨_, ho, _⟩ := hy; exact own_formN ho
  refine calls_of_wp_marks Try.func90 rfl ?_; simp only [Try.ntmps90, List.size_toArray, List.length_cons, List.length_nil, Nat.reduceAdd, Nat.reduceSub, Array.replicate_succ, Array.replicate_zero, List.push_toArray, List.append_toArray, List.nil_append, List.cons_append]
  go_wp2_with (go_at_call 92; refine (places.calls _ _ _ _ _ _ _ _).mono ?_; rintro e w' ⟨rfl, rfl⟩)
  have hM : M < w0.heap.size := E.hM; have hw0 : w0.heap.size ≤ W.heap.size := hS.fr.size; have hA := E.hA; have hB := E.hB
  have hlx : ts.length ≤ 1048576 := by
    have h2 := flat_long ts
    rcases Nat.eq_zero_or_pos (flat ts).length with h | h
    · omega
    · have h3 := (hT ((flat ts).length - 1) (by omega)).1; omega
  have hly : us.length ≤ 1048576 := by
    have h2 := flat_long us
    rcases Nat.eq_zero_or_pos (flat us).length with h | h
    · omega
    · have h3 := (hU ((flat us).length - 1) (by omega)).1; omega
  obtain ⟨Wl, hWl⟩ : ∃ Wl, Wl = ((((W.alloc (.cells #[.int .i64 0] 3)).alloc (.cells #[.pointer (some ⟨g, 0, none⟩)] 92)).alloc (.cells #[.slice A1 ts.length c1] 91)).alloc (.cells #[.slice A2 us.length c2] 91)) := ⟨_, rfl⟩
  have hbl : Below W.heap.size W Wl := by rw [hWl]; exact ((((Below.refl _ W).alloc (Nat.le_refl _) _).alloc (by simp) _).alloc (by simp; omega) _).alloc (by simp <;> omega) _
  have hszl : Wl.heap.size = W.heap.size + 4 := by rw [hWl]; simp
  have hk0 : Wl.heap[W.heap.size]? = some (.cells #[.int .i64 0] 3 (0, 0)) := by
    rw [hWl]; exact (Below.heap_alloc _ _ _ (by simp; omega)).trans ((Below.heap_alloc _ _ _ (by simp; omega)).trans ((Below.heap_alloc _ _ _ (by simp)).trans (World.alloc_heap_new W _)))
  have hk1 : Wl.heap[W.heap.size + 1]? = some (.cells #[.pointer (some ⟨g, 0, none⟩)] 92 (0, 0)) := by
    rw [hWl]; have := World.alloc_heap_new (W.alloc (.cells #[.int .i64 0] 3)) (.cells #[.pointer (some ⟨g, 0, none⟩)] 92); rw [World.size_alloc] at this; exact (Below.heap_alloc _ _ _ (by simp <;> omega)).trans ((Below.heap_alloc _ _ _ (by simp <;> omega)).trans this)
  have hk2 : Wl.heap[W.heap.size + 1 + 1]? = some (.cells #[.slice A1 ts.length c1] 91 (0, 0)) := by
    rw [hWl]; have := World.alloc_heap_new ((W.alloc (.cells #[.int .i64 0] 3)).alloc (.cells #[.pointer (some ⟨g, 0, none⟩)] 92)) (.cells #[.slice A1 ts.length c1] 91); rw [World.size_alloc, World.size_alloc] at this; exact (Below.heap_alloc _ _ _ (by simp)).trans this
  have hk3 : Wl.heap[W.heap.size + 1 + 1 + 1]? = some (.cells #[.slice A2 us.length c2] 91 (0, 0)) := by
    rw [hWl]; have := World.alloc_heap_new (((W.alloc (.cells #[.int .i64 0] 3)).alloc (.cells #[.pointer (some ⟨g, 0, none⟩)] 92)).alloc (.cells #[.slice A1 ts.length c1] 91)) (.cells #[.slice A2 us.length c2] 91); rw [World.size_alloc, World.size_alloc, World.size_alloc] at this; exact this
  rw [← hWl]; have hSl : St w0 M NA NB T U Wl := hS.below hbl; have hfl : Fr W Wl (fun i => i = M) := fr_below (Fr.refl _ _) hbl
  have hdef : embL ts us = decide ((plc us ts 0 0).length = ts.length) := by rw [plc_all us ts 0 0, List.drop_zero]
  have HDEF := Aside0.mk hdef; clear hWl hdef
  refine wpIn_wide.1 (wpIn_rangeFunc_W (n := 9) (gf := 138) (lb := #[.pointer (some ⟨W.heap.size + 1 + 1, 0, none⟩), .pointer (some ⟨W.heap.size + 1 + 1 + 1, 0, none⟩), .pointer (some ⟨W.heap.size + 1, 0, none⟩)]) rfl (by omega) rfl trivial enters_pl
    (encs := enc2) (R := RE w0 M NA NB T U) (Kp := KpE w0 M NA NB T U (W.heap.size + 1)) (S := fun xs => xs = plc us ts 0 0) (Sp := fun pre => pre <+: plc us ts 0 0) (N := ts.length)
    (fun W1 hb hz => places_seq E hE A1 A2 c1 c2 ts us i j px py hx hy hT hU hk (W.heap.size + 1) _ _ _ (by omega) (by omega) (by omega) (by omega) hlx hly W1 (hSl.below hb) ⟨q13 hk2 hb, q13 hk3 hb, q13 hk1 hb⟩ _ _)
    (fun H A B k o hr hk1 hk2 hk3 => (hr.1.block k (blk_lt hk3) (by omega)).trans hk3)
    (fun h k => h.trans k)
    (fun V l o o' hl ho hc _ => ⟨by simp [World.putObj], fun k cs t fr hk hkc => (World.putObj_heap_other (fun e => by subst e; rw [ho] at hkc; cases hkc; simp [Obj.isCells] at hc)).trans hkc, fun hs => hs.grown (grownBy_putObj' V l o') (fun b e => by cases e; omega) hM⟩)
    (fun _ => rfl)
    (fun pre V => V.heap[W.heap.size]? = some (.cells #[.int .i64 ((pre.length : Nat) : Int)] 3 (0, 0)) ∧ St w0 M NA NB T U V ∧ Fr W V (fun i => i = M) ∧ Wl.heap.size ≤ V.heap.size)
    (fun c pre V => False)
    (fun s V V' row hs hg hr => ⟨(grownBy_keeps_cells hg (fun r e => (hr r e).2) hs.1 rfl).trans hs.1, hs.2.1.grown hg (fun b e => by have := (hr b e).1; omega) hM, ⟨hg.os.trans hs.2.2.1.os, hg.tape.trans hs.2.2.1.tape, hg.output.trans hs.2.2.1.output, Nat.le_trans hs.2.2.1.size hg.size, fun k hk hn => (hg.block k (Nat.lt_of_lt_of_le hk hs.2.2.1.size) (fun e => by have := (hr k e.symm).1; omega)).trans (hs.2.2.1.block k hk hn)⟩, Nat.le_trans hs.2.2.2 hg.size⟩)
    (fun _ => fun _ _ _ _ h _ _ => h)
    (fun s H A B hH hs hr => ⟨(hr.1.block _ (blk_lt hs.1) (by omega)).trans hs.1, hr.2 hs.2.1, hs.2.2.1.trans hr.1, Nat.le_trans hs.2.2.2 hr.1.size⟩)
    (fun _ _ _ _ _ _ h _ => h)
    ⟨hk0, hSl, hfl, Nat.le_refl _⟩
    (fun x a' V => a' = { tmps := #[.pointer (some ⟨g, 0, none⟩), .slice A1 ts.length c1, .slice A2 us.length c2, undef, undef, undef, .bool false, .pointer (some ⟨W.heap.size, 0, none⟩), .pointer (some ⟨g, 0, none⟩), .slice A1 ts.length c1, .slice A2 us.length c2, .func (.func 138) #[] #[.pointer (some ⟨W.heap.size + 1 + 1, 0, none⟩), .pointer (some ⟨W.heap.size + 1 + 1 + 1, 0, none⟩), .pointer (some ⟨W.heap.size + 1, 0, none⟩)], .int .i64 x.1, .int .i64 x.2, undef, undef, undef, undef, undef, undef], defers := [] })
    (fun x a' => fun _ _ _ _ h _ _ => h) ?assign ?body ?done (fun D c pre V hD hp h hk => h.elim))
  case assign =>
    rintro l pre x V K hi hK; have HK := Aside0.mk hK; have HI := Aside0.mk hi; clear hK hi hk0 hk1 hk2 hk3 hSl hfl hS hx hy hT hU
    gi_wp2
    exact HK.out _ _ (KeepsFrom.refl _ _) (KpE.refl _ _ _ _ _ _ _ _) HI.out (by simp [enc2])
  case body =>
    rintro l pre x a' V hl hr ⟨hn, hs, hf, hz⟩ rfl hlen; have c1 : V.cell? ⟨W.heap.size, 0, none⟩ = some (.int .i64 ((pre.length : Nat) : Int)) := (q4 hn 0).trans rfl; have ff := q11 hn 0; have hp0 : (0 : Int) ≤ (pre.length : Int) := Int.natCast_nonneg _
    have hp1 : (pre.length : Int) ≤ 1048576 := by omega
    have hg := grown_set V W.heap.size 0 (.int .i64 ((pre.length : Int) + 1))
    have hs5 : (V.setCell ⟨W.heap.size, 0, none⟩ (.int .i64 ((pre.length : Int) + 1))).heap[W.heap.size]? = some (.cells #[.int .i64 ((pre.length : Int) + 1)] 3 (0, 0)) := by simpa using q21 hn 0 (.int .i64 ((pre.length : Int) + 1))
    have HG := Aside0.mk hg; have HS5 := Aside0.mk hs5; have HS := Aside0.mk hs; have HF := Aside0.mk hf; have HZ := Aside0.mk hz; have HN := Aside0.mk hn; clear hg hs5 hs hf hz hn hk0 hk1 hk2 hk3 hSl hfl hS hx hy hT hU hr
    gi_wp2
    obtain ⟨V2, hV2⟩ : ∃ V2, V2 = V.setCell ⟨W.heap.size, 0, none⟩ (.int .i64 ((pre.length : Int) + 1)) := ⟨_, rfl⟩; rw [← hV2] at HG HS5; rw [← hV2]; have hg := HG.out; refine ⟨KeepsFrom.of_grownBy hg (fun j e => by cases e; omega), ⟨hg.size, fun k cs t fr hk hc => (hg.block k (blk_lt hc) (fun e => by cases e; omega)).trans hc, fun hs => hs.grown hg (fun b e => by cases e; omega) hM⟩, ?_, HS.out.grown hg (fun b e => by cases e; omega) hM, ⟨hg.os.trans HF.out.os, hg.tape.trans HF.out.tape, hg.output.trans HF.out.output, Nat.le_trans HF.out.size hg.size, fun k hk hn => (hg.block k (Nat.lt_of_lt_of_le hk HF.out.size) (fun e => by cases e; omega)).trans (HF.out.block k hk hn)⟩, Nat.le_trans HZ.out hg.size⟩; rw [List.length_append]; exact HS5.out
  case done =>
    rintro D xs V hD rfl ⟨hn, hs, hf, hz⟩ hkD; have c1 : V.cell? ⟨W.heap.size, 0, none⟩ = some (.int .i64 (((plc us ts 0 0).length : Nat) : Int)) := (q4 hn 0).trans rfl; have HKD := Aside0.mk hkD; have HS := Aside0.mk hs; have HF := Aside0.mk hf; clear hn hs hf hkD hk0 hk1 hk2 hk3 hSl hfl hS hx hy hT hU
    go_wp2
    refine leave1 HKD.out (fun W' => results_tmp rfl _ _ _) ⟨?_, HS.out.grown (grownBy_putObj' V D _) (fun b e => by cases e; omega) hM, ?_⟩
    · show Ending.returned (.bool (((plc us ts 0 0).length : Int) == (ts.length : Int))) = _; rw [HDEF.out]
      congr 2
      rw [Bool.eq_iff_iff]; simp; omega
    · exact ⟨HF.out.os, HF.out.tape, HF.out.output, Nat.le_trans HF.out.size (grownBy_putObj' V D _).size, fun k hk hn => (World.putObj_heap_other (by omega)).trans (HF.out.block k hk hn)⟩
theorem emb_all {w0 : World} {g M NA NB : Nat} {T U : Nat → Tm} {ok : Nat → Prop} (E : Ex w0 g M NA NB T U ok) : ∀ k, EmbC w0 g M NA NB T U ok k := by
  intro k
  induction k with
  | zero => intro x y t u i j px py W _ _ _ _ h; cases t; simp at h
  | succ k ih => exact embedded_of E (coupled_of E (k := k) (by
      cases k with
      | zero => intro va vb ts us i j px py W _ _ _ _ h; cases ts <;> simp at h
      | succ k => exact lists_of E (fun x y t u i j px py W a b c d e f => ih x y t u i j px py W a b c d (by omega) f))) ih
theorem lists_all {w0 : World} {g M NA NB : Nat} {T U : Nat → Tm} {ok : Nat → Prop} (E : Ex w0 g M NA NB T U ok) (k : Nat) : LisC w0 g M NA NB T U ok (k + 1) := lists_of E (emb_all E k)
end
end Go.Proofs.Ytjhjhhibbmligaa.TE
end
