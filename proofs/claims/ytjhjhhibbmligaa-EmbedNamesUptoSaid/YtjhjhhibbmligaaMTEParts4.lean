/- term.Variables. -/
import Derived.Test.YtjhjhhibbmligaaMTEPa
import Derived.Test.YtjhjhhibbmligaaMTEBa
import Derived.OwnWalkIn
import Derived.TacticsInMore
section
namespace Go.Proofs.Ytjhjhhibbmligaa.TE
open Go.RowKit Go.Shelf Go.Proofs.YtjhjhhibbmligaaW.PrintWords Go.Proofs.YtjhjhhibbmligaaW.PrintLast Go.Proofs.YtjhjhhibbmligaaW.PrintMore Go.Proofs.Ytjhjhhibbmligaa.Evs
set_option linter.unusedVariables false
set_option linter.unusedSimpArgs false
section
attribute [local go_sem] Oper.semAt_some
structure KeepD (n₀ m : Nat) (W W' : World) : Prop where
  below : Below n₀ W W'
  cells : ∀ k cs t fr, m ≤ k → t ≠ 9 → W.heap[k]? = some (.cells cs t fr) → W'.heap[k]? = some (.cells cs t fr)
theorem KeepD.trans {n₀ m : Nat} {A B C : World} (h : KeepD n₀ m A B) (k : KeepD n₀ m B C) : KeepD n₀ m A C :=
  ⟨h.below.trans k.below, fun i cs t fr hi ht hc => k.cells i cs t fr hi ht (h.cells i cs t fr hi ht hc)⟩
theorem KeepD.refl (n₀ m : Nat) (W : World) : KeepD n₀ m W W := ⟨Below.refl _ _, fun _ _ _ _ _ _ h => h⟩
theorem KeepD.ofBelow {n₀ m : Nat} {W W' : World} (h : Below W.heap.size W W') (hn : n₀ ≤ W.heap.size) : KeepD n₀ m W W' :=
  ⟨h.mono hn, fun k cs t fr _ _ hc => (h.block k (Array.getElem?_eq_some_iff.1 hc).1).trans hc⟩
theorem KeepD.put {n₀ m : Nat} (W : World) (l : Nat) (o o' : Obj) (hl : n₀ ≤ l) (h : W.heap[l]? = some o) (hc : o.isCells = false) : KeepD n₀ m W (W.putObj l o') :=
  ⟨(Below.refl n₀ W).grown (grownBy_putObj' W l o') (by have := (Array.getElem?_eq_some_iff.1 h).1; omega) (fun k e => by cases e; omega), fun k cs t fr _ _ hk => by
    by_cases e : k = l
    · subst e; rw [h] at hk; cases hk; simp [Obj.isCells] at hc
    · exact (World.putObj_heap_other e).trans hk⟩
set_option maxRecDepth 100000 in
set_option maxHeartbeats 4000000 in
theorem walk_allD (w0 : World) (L : List S42) (lp m By Bw N : Nat) (J Jx : List (Yd w0 L) → World → Prop) (n : Nat) (B : Nat) (hJ : AbidesFrom B J)
    (hBy : m ≤ By) (hBw : m ≤ Bw)
    (hY : ∀ pre y W, J pre W → pre.length < N → YieldAt Fence.wide n Try.prog lp y.enc W fun e W' =>
      (e = .returned (.bool true) ∧ J (pre ++ [y]) W' ∧ KeepD w0.heap.size m W W') ∨ (e = .returned (.bool false) ∧ Jx (pre ++ [y]) W')) :
    ∀ (k : Nat) (A : Option Addr) (c : Nat) (l : List S42) (pre : List (Yd w0 L)) (W : World), SizeOf.sizeOf l ≤ k → (∀ t, t ∈ flat l → t ∈ L) → Kd.C k42 w0 A l.length l → l.length ≤ c → Below w0.heap.size w0 W → m ≤ W.heap.size →
      W.heap[By]? = some (.cells #[.func (.yield lp) #[] #[]] 78 (0, 0)) → W.heap[Bw]? = some (.cells #[.func (.func 146) #[] #[.pointer (some ⟨By, 0, none⟩), .pointer (some ⟨Bw, 0, none⟩)]] 64 (0, 0)) →
      J pre W → pre.length + (flat l).length ≤ N →
      CallsIn Fence.wide n Try.prog 146 #[.slice A l.length c, .pointer (some ⟨By, 0, none⟩), .pointer (some ⟨Bw, 0, none⟩)] W fun e W' =>
        (e = .returned (.bool true) ∧ ∃ ys : List (Yd w0 L), ys.map (·.x) = flat l ∧ J (pre ++ ys) W' ∧ KeepD w0.heap.size m W W') ∨
        (e = .returned (.bool false) ∧ ∃ ys : List (Yd w0 L), ys.map (·.x) <+: flat l ∧ Jx (pre ++ ys) W') := by
  intro k
  induction k with
  | zero => intro A c l pre W hk; cases l <;> simp at hk
  | succ k ih =>
    intro A c l pre W hk hL hC hc hB hm hy0 hw0 hj hN; have hu42 := Try.underlying42; have hmax := Kd.C_max hC; refine callsIn_of_wp Try.func146 rfl trivial ?_ rfl; simp only [Try.ntmps146, List.size_toArray, List.length_cons, List.length_nil, Nat.reduceAdd, Nat.reduceSub, Array.replicate_succ, Array.replicate_zero, List.push_toArray, List.append_toArray, List.nil_append, List.cons_append]
    gi_wp2
    gi_loopw [9] (fun i wr => ∃ (q : Nat) (ys : List (Yd w0 L)), i = .int .i64 q ∧ q ≤ l.length ∧ ys.map (·.x) = flat (l.take q) ∧ J (pre ++ ys) wr ∧ KeepD w0.heap.size m W wr) (fun i wr => l.length - (intOf i).toNat)
    case atStart => exact ⟨0, [], rfl, Nat.zero_le _, by simp [flat_nil], by simpa using hj, KeepD.refl _ _ _⟩
    case round =>
      obtain ⟨q, ys, rfl, hq, hys, hjs, hK⟩ := hrel
      have hlen : ys.length = (flat (l.take q)).length := by rw [← hys, List.length_map]
      have HY := Aside0.mk hys; have HJs := Aside0.mk hjs; have HKs := Aside0.mk hK; have HL := Aside0.mk hlen; have hBr : Below w0.heap.size w0 wr := hB.trans hK.below; have hszr : W.heap.size ≤ wr.heap.size := hK.below.size; clear hys hjs hlen
      by_cases hlt : q < l.length
      · obtain ⟨ad, A2, c2, rfl, hx0, hx1, hx2, hl2, hr2⟩ := at_T42 hC (q : Int) (by omega) (by omega)
        have hrd : rd_T42 l (q : Int) = l[q] := by simp [rd_T42, List.getD_eq_getElem?_getD, List.getElem?_eq_getElem hlt]
        rw [hrd] at hx0 hx1 hx2 hl2 hr2; rw [Int.toNat_natCast] at hx0 hx1 hx2; obtain ⟨x, hxx⟩ : ∃ x, l[q] = x := ⟨_, rfl⟩
        have hsz : SizeOf.sizeOf x.f2 ≤ k := by have := sizeOf_kids l q hlt; rw [hxx] at this; omega
        have hft := flat_take_succ l q hlt; have hfl := flat_take_le l (q + 1); rw [hxx] at hx0 hx1 hx2 hl2 hr2 hft
        have hN2 : (flat (l.take q)).length + (1 + (flat x.f2).length) ≤ (flat l).length := by rw [hft] at hfl; simp at hfl; omega
        have hxf : x ∈ flat l := (flat_take_prefix l (q + 1)).subset (by rw [hft]; simp)
        have hkf : ∀ t, t ∈ flat x.f2 → t ∈ L := fun t ht => hL t ((flat_take_prefix l (q + 1)).subset (by rw [hft]; simp [ht]))
        obtain ⟨y, hy⟩ : ∃ y : Yd w0 L, y = ⟨x, hL x hxf, A2, c2, hl2, hr2⟩ := ⟨_, rfl⟩
        have hyx : y.x = x := by rw [hy]
        replace hx0 := (hBr.cell (World.block_lt_of_cell? w0 _ hx0)).trans hx0; replace hx1 := (hBr.cell (World.block_lt_of_cell? w0 _ hx1)).trans hx1; replace hx2 := (hBr.cell (World.block_lt_of_cell? w0 _ hx2)).trans hx2; obtain ⟨W1, hW1⟩ : ∃ W1, wr.alloc (.cells #[.int .i64 x.f0, .string x.f1, .slice A2 x.f2.length c2] 42) = W1 := ⟨_, rfl⟩
        have hb1 : Below wr.heap.size wr W1 := by rw [← hW1]; exact (Below.refl _ wr).alloc (Nat.le_refl _) _
        have hk1 : KeepD w0.heap.size m wr W1 := KeepD.ofBelow hb1 (Nat.le_trans hB.size hszr)
        have ht1 : W1.heap[wr.heap.size]? = some (.cells #[.int .i64 x.f0, .string x.f1, .slice A2 x.f2.length c2] 42 (0, 0)) := by rw [← hW1]; exact World.alloc_heap_new wr _
        have hj1 : J (pre ++ ys) W1 := hJ _ wr W1 none HJs.out (by rw [← hW1]; exact World.grownBy_alloc wr _ none) (fun r e => by cases e); obtain ⟨fn, tmps, assign, body, hyr, hR⟩ := hY (pre ++ ys) y W1 hj1 (by have := HL.out; simp; omega)
        have henc : y.enc = #[.agg #[.int .i64 x.f0, .string x.f1, .slice A2 x.f2.length c2]] := by rw [hy]; rfl
        rw [henc] at hyr; have hby1 := hk1.cells By _ _ _ hBy (by decide) (hK.cells By _ _ _ hBy (by decide) hy0); have hcy : W1.cell? ⟨By, 0, none⟩ = some (.func (.yield lp) #[] #[]) := (q4 hby1 0).trans rfl
        have hdd : ∀ k : Nat, (Fence.wide.depth.isSome = true → 1 ≤ k) := fun k h => by simp [Fence.wide] at h
        have hR2 := hR.mono (R' := fun e W2 =>
            (e = .returned (.bool true) ∧ W2.cell? ⟨Bw, 0, none⟩ = some (.func (.func 146) #[] #[.pointer (some ⟨By, 0, none⟩), .pointer (some ⟨Bw, 0, none⟩)]) ∧
              W2.cell? ⟨wr.heap.size, 2, none⟩ = some (.slice A2 x.f2.length c2) ∧
              CallsIn Fence.wide n Try.prog 146 #[.slice A2 x.f2.length c2, .pointer (some ⟨By, 0, none⟩), .pointer (some ⟨Bw, 0, none⟩)] W2 fun e W3 =>
                (e = .returned (.bool true) ∧ ∃ zs : List (Yd w0 L), zs.map (·.x) = flat x.f2 ∧ J (pre ++ (ys ++ y :: zs)) W3 ∧ KeepD w0.heap.size m W W3) ∨
                (e = .returned (.bool false) ∧ ∃ zs : List (Yd w0 L), zs.map (·.x) <+: flat x.f2 ∧ Jx (pre ++ (ys ++ y :: zs)) W3)) ∨
            (e = .returned (.bool false) ∧ Jx (pre ++ (ys ++ [y])) W2)) (fun e W2 h => by
          rcases h with ⟨he, hj2, hk2⟩ | ⟨he, hj2⟩
          · refine .inl ⟨he, ?_, ?_, ?_⟩
            · exact (q4 (hk2.cells Bw _ _ _ hBw (by decide) (hk1.cells Bw _ _ _ hBw (by decide) (hK.cells Bw _ _ _ hBw (by decide) hw0))) 0).trans rfl
            · exact (q4 (hk2.cells wr.heap.size _ _ _ (Nat.le_trans hm hszr) (by decide) ht1) 2).trans rfl
            · have hkk := (hK.trans hk1).trans hk2; refine (ih A2 c2 x.f2 (pre ++ ys ++ [y]) W2 hsz hkf hr2 hl2 (hB.trans hkk.below) (Nat.le_trans hm hkk.below.size) (hkk.cells By _ _ _ hBy (by decide) hy0) (hkk.cells Bw _ _ _ hBw (by decide) hw0) hj2 (by have := HL.out; simp; omega)).mono ?_; rintro e3 W3 (⟨he3, zs, hz, hj3, hk3⟩ | ⟨he3, zs, hz, hj3⟩)
              · exact .inl ⟨he3, zs, hz, by simpa [List.append_assoc] using hj3, hkk.trans hk3⟩
              · exact .inr ⟨he3, zs, hz, by simpa [List.append_assoc] using hj3⟩
          · exact .inr ⟨he, by simpa [List.append_assoc] using hj2⟩)
        have ht10 : W1.cell? ⟨wr.heap.size, 0, none⟩ = some (.int .i64 x.f0) := (q4 ht1 0).trans rfl; have ht11 : W1.cell? ⟨wr.heap.size, 1, none⟩ = some (.string x.f1) := (q4 ht1 1).trans rfl; have ht12 : W1.cell? ⟨wr.heap.size, 2, none⟩ = some (.slice A2 x.f2.length c2) := (q4 ht1 2).trans rfl; have HX := Aside0.mk hxx; have HFT := Aside0.mk hft; have HT1 := Aside0.mk ht1; have HYX := Aside0.mk hyx; clear hxf hkf hL hxx hft ht1 hyx hrd hy henc hR hY ih hby1 hy0 hw0 hsz hfl hK hk1 HJs hj hj1
        have hlb : decide ((q : Int) < (l.length : Int)) = true := by simp; omega
        gi_wp2_with ((try refine ⟨hdd _, ?_⟩); refine (round_any hR2).mono ?_; clear hR2; rintro e W2 (⟨rfl, hcw2, hck2, hC2⟩ | ⟨rfl, hJ2⟩))
        · refine ⟨trivial, hdd _, (calls_any hC2).mono ?_⟩; clear hC2; rintro e W3 (⟨rfl, zs, hz, hJ3, hK3⟩ | ⟨rfl, zs, hz, hJ3⟩)
          · have HZ := Aside0.mk hz; clear hz
            gi_wp2
            go_roundw
            case rel => exact ⟨q + 1, ys ++ y :: zs, by go_num, by omega, by rw [HFT.out, List.map_append, List.map_cons, HYX.out, HY.out, HZ.out], hJ3, hK3⟩
            case measure => simp [intOf]; omega
          · have HZ := Aside0.mk hz; clear hz
            gi_wp2
            go_ret; refine .inr ⟨rfl, ys ++ y :: zs, ?_, hJ3⟩; rw [List.map_append, List.map_cons, HYX.out, HY.out]; refine List.IsPrefix.trans ?_ (flat_take_prefix l (q + 1)); rw [HFT.out]
            exact List.prefix_append_right_inj _ |>.2 ((List.prefix_cons_inj _).2 HZ.out)
        · refine ⟨fun _ h => (by cases h), ?_⟩
          gi_wp2
          go_ret; refine .inr ⟨rfl, ys ++ [y], ?_, hJ2⟩; rw [List.map_append, List.map_cons, HYX.out, HY.out]; refine List.IsPrefix.trans ?_ (flat_take_prefix l (q + 1)); rw [HFT.out]
          exact List.prefix_append_right_inj _ |>.2 ((List.prefix_cons_inj _).2 (List.nil_prefix))
      · obtain rfl : q = l.length := by omega
        have hlb : decide ((l.length : Int) < (l.length : Int)) = false := by simp
        gi_wp2
        go_ret; exact .inl ⟨rfl, ys, by rw [HY.out, List.take_length], HJs.out, HKs.out⟩
set_option maxHeartbeats 2000000 in
theorem all_stopsD (n : Nat) (w0 w : World) (hB : Below w0.heap.size w0 w) (Bl : Nat) (A : Option Addr) (c : Nat) (l : List S42) (hC : Kd.C k42 w0 A l.length l) (hc : l.length ≤ c)
    (hl : w.cell? ⟨Bl, 0, none⟩ = some (.slice A l.length c)) :
    SeqStopsK Fence.wide n Try.prog 145 #[.pointer (some ⟨Bl, 0, none⟩)] (Yd.enc (w0 := w0) (L := flat l)) (KeepD w0.heap.size w.heap.size) (fun ys => ys.map (·.x) = flat l) (fun pre => pre.map (·.x) <+: flat l) (flat l).length w := by
  intro lp J Jx W hW hJ hJx hY h0; have hlt : Bl < w.heap.size := World.block_lt_of_cell? w ⟨Bl, 0, none⟩ hl; have hlW : W.cell? ⟨Bl, 0, none⟩ = some (.slice A l.length c) := (hW.cell (p := ⟨Bl, 0, none⟩) hlt).trans hl; obtain ⟨W2, hW2⟩ : ∃ W2, (W.alloc (.cells #[.func (.yield lp) #[] #[]] 78)).alloc (.cells #[.func (.func 146) #[] #[.pointer (some ⟨W.heap.size, 0, none⟩), .pointer (some ⟨W.heap.size + 1, 0, none⟩)]] 64) = W2 := ⟨_, rfl⟩
  have hb2 : Below W.heap.size W W2 := by rw [← hW2]; exact ((Below.refl _ W).alloc (Nat.le_refl _) _).alloc (by simp) _
  have hy2 : W2.heap[W.heap.size]? = some (.cells #[.func (.yield lp) #[] #[]] 78 (0, 0)) := by
    rw [← hW2]; exact (Below.heap_alloc _ _ _ (by simp)).trans (World.alloc_heap_new W _)
  have hw2 : W2.heap[W.heap.size + 1]? = some (.cells #[.func (.func 146) #[] #[.pointer (some ⟨W.heap.size, 0, none⟩), .pointer (some ⟨W.heap.size + 1, 0, none⟩)]] 64 (0, 0)) := by
    rw [← hW2]; have := World.alloc_heap_new (W.alloc (.cells #[.func (.yield lp) #[] #[]] 78)) (.cells #[.func (.func 146) #[] #[.pointer (some ⟨W.heap.size, 0, none⟩), .pointer (some ⟨W.heap.size + 1, 0, none⟩)]] 64)
    rwa [World.size_alloc] at this
  have hj2 : J [] W2 := hJ _ W W2 none h0 (by rw [← hW2]; exact (World.grownBy_alloc W _ none).trans (World.grownBy_alloc _ _ none)) (fun r e => by cases e); have hcall := walk_allD w0 (flat l) lp w.heap.size W.heap.size (W.heap.size + 1) (flat l).length J Jx (n - 1) W.heap.size hJ hW.size (Nat.le_succ_of_le hW.size)
    (fun pre y W' hj hn => yield_any (hY pre y W' hj hn)) (SizeOf.sizeOf l) A c l [] W2 (Nat.le_refl _) (fun t ht => ht) hC hc (hB.trans ((hW.mono hB.size).trans (hb2.mono (Nat.le_trans hB.size hW.size)))) (Nat.le_trans hW.size hb2.size) hy2 hw2 hj2 (by simp)
  have hcy : W2.cell? ⟨W.heap.size, 0, none⟩ = some (.func (.yield lp) #[] #[]) := (q4 hy2 0).trans rfl; have hcw : W2.cell? ⟨W.heap.size + 1, 0, none⟩ = some (.func (.func 146) #[] #[.pointer (some ⟨W.heap.size, 0, none⟩), .pointer (some ⟨W.heap.size + 1, 0, none⟩)]) := (q4 hw2 0).trans rfl; have hcl : W2.cell? ⟨Bl, 0, none⟩ = some (.slice A l.length c) := (hb2.cell (p := ⟨Bl, 0, none⟩) (Nat.lt_of_lt_of_le hlt hW.size)).trans hlW; have HY2 := Aside0.mk hy2; have HW2 := Aside0.mk hw2; clear hy2 hw2 hY h0 hJ hJx hj2
  have hdd : ∀ k : Nat, (Fence.wide.depth.isSome = true → 1 ≤ k) := fun k h => by simp [Fence.wide] at h
  refine callsIn_of_wp Try.func145 rfl trivial ?_ rfl; simp only [Try.ntmps145, List.size_toArray, List.length_cons, List.length_nil, Nat.reduceAdd, Nat.reduceSub, Array.replicate_succ, Array.replicate_zero, List.push_toArray, List.append_toArray, List.nil_append, List.cons_append]
  gi_wp2_with (fail)
  refine ⟨trivial, hdd _, hcall.mono ?_⟩; clear hcall; rintro e W3 (⟨rfl, ys, hys, hJ3, _⟩ | ⟨rfl, ys, hys, hJ3⟩)
  · have HZ := Aside0.mk hys; clear hys
    gi_wp2
    go_end0
    exact ⟨⟨_, rfl⟩, .inl ⟨ys, HZ.out, by simpa using hJ3⟩⟩
  · have HZ := Aside0.mk hys; clear hys
    gi_wp2
    go_end0
    exact ⟨⟨_, rfl⟩, .inr ⟨ys, HZ.out, by simpa using hJ3⟩⟩
theorem range_allHD {p : Tmp} {g : Operand} {assign body : Code} {Q : Exit → Act → World → Prop} {a : Act} {w : World}
    (w0 : World) (hB : Below w0.heap.size w0 w) (Bl : Nat) (A : Option Addr) (c : Nat) (l : List S42) (hC : Kd.C k42 w0 A l.length l) (hc : l.length ≤ c)
    (hl : w.cell? ⟨Bl, 0, none⟩ = some (.slice A l.length c)) (hg : a.eval g = .func (.func 145) #[] #[.pointer (some ⟨Bl, 0, none⟩)])
    (I : List (Yd w0 (flat l)) → World → Prop) (Ix : Code → List (Yd w0 (flat l)) → World → Prop) (hI : OwnFrom w.heap.size I) (hIx : ∀ c, OwnFrom w.heap.size (Ix c)) (h0 : I [] w)
    (Ax : Yd w0 (flat l) → Act → World → Prop) (hAx : ∀ x a', OwnFrom w.heap.size (fun (_ : Unit) W => Ax x a' W))
    (hassign : ∀ (lp : Nat) (pre : List (Yd w0 (flat l))) (x : Yd w0 (flat l)) (W : World) (K : Act → World → Prop), I pre W →
      (∀ a' W', KeepsFrom w.heap.size W W' → KeepD w0.heap.size w.heap.size W W' → I pre W' → Ax x a' W' → K a' W') →
      assign.wpIn (Fence.wide.inRound lp) 7 Try.prog (Exit.then K (fun _ _ _ => False)) { tmps := a.tmps.setIfInBounds p (.agg #[.int .i64 x.x.f0, .string x.x.f1, .slice x.A x.x.f2.length x.c]), defers := [] } W)
    (hbody : ∀ (lp : Nat) (pre : List (Yd w0 (flat l))) (x : Yd w0 (flat l)) (a' : Act) (W : World), I pre W → Ax x a' W → pre.length < (flat l).length →
      body.wpIn (Fence.wide.inRound lp) 7 Try.prog (ownPostG w.heap.size (KeepD w0.heap.size w.heap.size) I Ix (pre ++ [x]) W) a' W)
    (hdone : ∀ (D : Nat) (ys : List (Yd w0 (flat l))) (W : World), w.heap.size ≤ D → ys.map (·.x) = flat l → I ys W → W.heap[D]? = some (.deferred (some [])) →
      Q .normal { a with defers := { target := .collected D, args := #[] } :: a.defers } W)
    (hstop : ∀ (D : Nat) (c : Code) (pre : List (Yd w0 (flat l))) (W : World), w.heap.size ≤ D → pre.map (·.x) <+: flat l → Ix c pre W → W.heap[D]? = some (.deferred (some [])) →
      c.wp Try.prog Q { a with defers := { target := .collected D, args := #[] } :: a.defers } W) :
    (Code.rangeFunc g #[p] assign body).wp Try.prog Q a w :=
  wpIn_wide.1 (wpIn_rangeFunc_ownH (n := 9) rfl (by omega) hg trivial enters145 (all_stopsD 8 w0 w hB Bl A c l hC hc hl) KeepD.trans
    (fun W k o o' hk ho hc hw => KeepD.put W k o o' (Nat.le_trans hB.size hk) ho hc) (Below.refl _ _) (fun _ => rfl) I Ix hI hIx h0 Ax hAx
    (fun lp pre x W K hi hK => by have := hassign lp pre x W K hi hK; simpa [Yd.enc] using this) (fun lp pre x a' W _ _ hi hx hl => hbody lp pre x a' W hi hx hl) hdone (fun D c pre W hD hp hx hk => wpIn_wide.2 (hstop D c pre W hD hp hx hk)))
theorem KeepD.setCell {n₀ m : Nat} (W : World) (b i : Nat) (v : Value) (h1 : n₀ ≤ b) (h2 : b < m) : KeepD n₀ m W (W.setCell ⟨b, i, none⟩ v) :=
  ⟨(Below.refl n₀ W).setCell (p := ⟨b, i, none⟩) h1 v, fun k cs t fr hk _ hc => (Below.heap_setCell W ⟨b, i, none⟩ v k (by simp; omega)).trans hc⟩
theorem KeepD.grown {n₀ m : Nat} {W W' : World} {row : Option Nat} (h : W.grownBy W' row) (hn : n₀ ≤ W.heap.size) (h1 : ∀ b, row = some b → n₀ ≤ b) (h2 : ∀ b, row = some b → ∃ cs fr, W.heap[b]? = some (.cells cs 9 fr)) : KeepD n₀ m W W' :=
  ⟨(Below.refl n₀ W).grown h hn h1, fun k cs t fr hk ht hc => by
    refine (h.block k (Array.getElem?_eq_some_iff.1 hc).1 (fun e => ?_)).trans hc; obtain ⟨cs', fr', hh⟩ := h2 k e.symm; rw [hc] at hh
    injection hh with hh
    injection hh with _ h3 _
    exact ht h3⟩
end
end Go.Proofs.Ytjhjhhibbmligaa.TE
end
section
namespace Go.Proofs.Ytjhjhhibbmligaa.TE
open Go.RowKit Go.Shelf Go.Proofs.YtjhjhhibbmligaaW.PrintWords Go.Proofs.YtjhjhhibbmligaaW.PrintLast Go.Proofs.YtjhjhhibbmligaaW.PrintMore Go.Proofs.Ytjhjhhibbmligaa.Evs
set_option linter.unusedVariables false
set_option linter.unusedSimpArgs false
section
attribute [local go_sem] Oper.semAt_some
def Met (es : Array MapEntry) (ns : List ByteArray) : Prop := es.toList.map (fun e => (e.key, e.val)) = ns.map (fun s => (Value.string s, Value.bool true))
theorem Met.has {es : Array MapEntry} {ns : List ByteArray} (h : Met es ns) {s : ByteArray} (hs : s ∈ ns) : ∃ e ∈ es.toList, e.key = .string s := by
  have h1 : (Value.string s, Value.bool true) ∈ ns.map (fun s => (Value.string s, Value.bool true)) := List.mem_map_of_mem hs; rw [← show es.toList.map (fun e => (e.key, e.val)) = _ from h] at h1; obtain ⟨e, he, hh⟩ := List.mem_map.1 h1
  injection hh with h2 h3
  exact ⟨e, he, h2⟩
def VS (B : Nat) (ns : List ByteArray) (W : World) : Prop := ∃ vo es c, W.heap[B]? = some (.cells #[vo] 23 (0, 0)) ∧ W.ownsRow B 9 1 vo ns.length (ns.map Value.string) ∧ W.heap[B + 1]? = some (.map es c) ∧ Met es ns ∧ W.heap[B + 2]? = some (.cells #[.map (some (B + 1))] 155 (0, 0))
theorem own_blocks {w w' : World} {base n e z : Nat} {v : Value} {xs : List Value} (h : w.ownsRow base e z v n xs) (hk : ∀ (k : Nat) (cs : Array Value) (t : TypeId), w.heap[k]? = some (.cells cs t (0, 0)) → w'.heap[k]? = some (.cells cs t (0, 0))) : w'.ownsRow base e z v n xs := by
  obtain ⟨h1, h2⟩ := h; refine ⟨h1, ?_⟩
  rcases h2 with h2 | ⟨b, cap, cur, rfl, hbb, hh, r⟩
  · exact .inl h2
  · exact .inr ⟨b, cap, cur, rfl, hbb, hk _ _ _ hh, r⟩
theorem VS.from {α : Type} {B Bl : Nat} {f : α → List ByteArray} (hB : B + 2 < Bl) : OwnFrom Bl (fun s W => VS B (f s) W) := by
  rintro s W W' row ⟨vo, es, c, h1, h2, h3, h4, h5⟩ hg hr
  have hk : ∀ (k : Nat) (cs : Array Value) (t : TypeId), W.heap[k]? = some (.cells cs t (0, 0)) → W'.heap[k]? = some (.cells cs t (0, 0)) := fun k cs t hh => (grownBy_keeps_cells hg (fun r e => (hr r e).2) hh rfl).trans hh
  exact ⟨vo, es, c, hk _ _ _ h1, own_blocks h2 hk, (hg.block (B + 1) (Array.getElem?_eq_some_iff.1 h3).1 (fun e => by have := (hr _ e.symm).1; omega)).trans h3, h4, hk _ _ _ h5⟩
theorem VS.below {B : Nat} {ns : List ByteArray} {W W' : World} (h : VS B ns W) (hb : Below W.heap.size W W') : VS B ns W' := by
  obtain ⟨vo, es, c, h1, h2, h3, h4, h5⟩ := h
  have hk : ∀ (k : Nat) (o : Obj), W.heap[k]? = some o → W'.heap[k]? = some o := fun k o hh => (hb.block k (Array.getElem?_eq_some_iff.1 hh).1).trans hh
  exact ⟨vo, es, c, hk _ _ h1, own_blocks h2 (fun k cs t hh => hk _ _ hh), hk _ _ h3, h4, hk _ _ h5⟩
theorem info_str : (Try.prog.info? 9).map (fun i => (i.zero, i.size, i.bytes)) = some (some (.string ⟨#[]⟩), 1, 16) := by kernel_rfl
end
end Go.Proofs.Ytjhjhhibbmligaa.TE
end
