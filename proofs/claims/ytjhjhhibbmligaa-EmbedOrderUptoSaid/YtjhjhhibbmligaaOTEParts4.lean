/- term.Variables. -/
import Derived.Test.YtjhjhhibbmligaaOTEAllD
import Derived.Test.YtjhjhhibbmligaaOTEBa
import Derived.OwnWalkIn
import Derived.TacticsInMore
namespace Go.Proofs.Ytjhjhhibbmligaa.TE
open Go.RowKit Go.Shelf Go.Proofs.YtjhjhhibbmligaaW.PrintWords Go.Proofs.YtjhjhhibbmligaaW.PrintLast Go.Proofs.YtjhjhhibbmligaaW.PrintMore Go.Proofs.Ytjhjhhibbmligaa.Evs
set_option linter.unusedVariables false
set_option linter.unusedSimpArgs false
section
attribute [local go_sem] Oper.semAt_some
def hasB (ns : List ByteArray) (s : ByteArray) : Bool := ns.any (fun t => decide (t.data.toList = s.data.toList))
def nmStep (ns : List ByteArray) (x : Tm) : List ByteArray := if (nameB x.f0 x.f1).data.toList = [] then ns else if hasB ns (nameB x.f0 x.f1) = true then ns else ns ++ [nameB x.f0 x.f1]
def namesL (l : List Tm) : List ByteArray := (flat l).foldl nmStep []
def Met (es : Array MapEntry) (ns : List ByteArray) : Prop := es.toList.map (fun e => (e.key, e.val)) = ns.map (fun s => (Value.string s, Value.bool true))
theorem Met.keys {es : Array MapEntry} {ns : List ByteArray} (h : Met es ns) : ∀ e ∈ es.toList, ∃ s ∈ ns, e.key = .string s ∧ e.val = .bool true := by
  intro e he; have h1 : (e.key, e.val) ∈ es.toList.map (fun e => (e.key, e.val)) := List.mem_map_of_mem he; rw [show es.toList.map (fun e => (e.key, e.val)) = _ from h] at h1; obtain ⟨s, hs, he⟩ := List.mem_map.1 h1
  injection he with h2 h3
  exact ⟨s, hs, h2.symm, h3.symm⟩
theorem Met.has {es : Array MapEntry} {ns : List ByteArray} (h : Met es ns) {s : ByteArray} (hs : s ∈ ns) : ∃ e ∈ es.toList, e.key = .string s := by
  have h1 : (Value.string s, Value.bool true) ∈ ns.map (fun s => (Value.string s, Value.bool true)) := List.mem_map_of_mem hs; rw [← show es.toList.map (fun e => (e.key, e.val)) = _ from h] at h1; obtain ⟨e, he, hh⟩ := List.mem_map.1 h1
  injection hh with h2 h3
  exact ⟨e, he, h2⟩
theorem hasB_iff (ns : List ByteArray) (s : ByteArray) : hasB ns s = true ↔ s ∈ ns := by
  unfold hasB; rw [List.any_eq_true]
  constructor
  · rintro ⟨t, ht, hh⟩; have := ba_ext (of_decide_eq_true hh); rw [← this]; exact ht
  · intro h; exact ⟨s, h, decide_eq_true rfl⟩
theorem isKey_str {s : ByteArray} : MapKept.IsKey .string (.string s) := by simp [MapKept.IsKey]
theorem Met.find {es : Array MapEntry} {ns : List ByteArray} (h : Met es ns) (s : ByteArray) : ∃ r, Instr.findNow .string (.string s) es.toList 0 = some r ∧ (hasB ns s = true → ∃ j, r = some (j, .bool true)) ∧ (hasB ns s = false → r = none) := by
  have hk : ∀ x ∈ es.toList, MapKept.IsKey .string x.key := by
    intro x hx; obtain ⟨t, _, ht, _⟩ := h.keys x hx; rw [ht]; exact isKey_str
  rcases MapKept.findNow_spec (isKey_str (s := s)) es.toList 0 hk with ⟨h1, h2⟩ | ⟨j, e, h1, h2, h3⟩
  · refine ⟨none, h1, fun hh => ?_, fun _ => rfl⟩; obtain ⟨e, he, hes⟩ := h.has ((hasB_iff ns s).1 hh); exact absurd hes (h2 e he)
  · have hmem : e ∈ es.toList := List.mem_of_getElem? h2; obtain ⟨t, ht, hkt, hvt⟩ := h.keys e hmem; rw [hkt] at h3
    injection h3 with h3
    refine ⟨some (0 + j, e.val), h1, fun _ => ⟨0 + j, by rw [hvt]⟩, fun hh => ?_⟩; rw [← h3, (hasB_iff ns t).2 ht] at hh; cases hh
theorem zeroB (w : World) : (zeroValue 4).run Try.prog w = .ok (.bool false) w := by kernel_rfl
theorem met_lookup {W : World} {b c : Nat} {es : Array MapEntry} {ns : List ByteArray} (hb : W.heap[b]? = some (.map es c)) (h : Met es ns) (s : ByteArray) : (Instr.lookup 155 (.map (some b)) (.string s) false).run Try.prog W = .ok (.bool (hasB ns s)) W := by
  obtain ⟨r, hr, h1, h2⟩ := h.find s
  cases hh : hasB ns s with
  | true =>
    obtain ⟨j, rfl⟩ := h1 hh; exact Hand.run_lookup_plain (key := .string s) (r := some (j, .bool true)) Try.underlying155 Try.underlying9 isKey_str hb (zeroB W) hr
  | false =>
    obtain rfl := h2 hh; exact Hand.run_lookup_plain (key := .string s) (r := none) Try.underlying155 Try.underlying9 isKey_str hb (zeroB W) hr
theorem met_update {W : World} {b c : Nat} {es : Array MapEntry} {ns : List ByteArray} (hb : W.heap[b]? = some (.map es c)) (h : Met es ns) (s : ByteArray) (hn : hasB ns s = false) :
    (Instr.mapUpdate 155 (.map (some b)) (.string s) (.bool true)).run Try.prog W = .ok () (W.putObj b (.map (es.push { key := .string s, val := .bool true, born := c }) (c + 1))) := by
  obtain ⟨r, hr, _, h2⟩ := h.find s; rw [h2 hn] at hr; exact Hand.run_mapUpdate_new Try.underlying155 Try.underlying9 isKey_str hb _ hr
theorem Met.push {es : Array MapEntry} {ns : List ByteArray} (h : Met es ns) (s : ByteArray) (c : Nat) : Met (es.push { key := .string s, val := .bool true, born := c }) (ns ++ [s]) := by
  unfold Met at *; rw [Array.toList_push, List.map_append, List.map_append, h]; rfl
def VS (B : Nat) (ns : List ByteArray) (W : World) : Prop := ∃ vo es c, W.heap[B]? = some (.cells #[vo] 23 (0, 0)) ∧ W.ownsRow B 9 1 vo ns.length (ns.map Value.string) ∧ W.heap[B + 1]? = some (.map es c) ∧ Met es ns ∧ W.heap[B + 2]? = some (.cells #[.map (some (B + 1))] 155 (0, 0))
theorem own_blocks {w w' : World} {base n e z : Nat} {v : Value} {xs : List Value} (h : w.ownsRow base e z v n xs) (hk : ∀ (k : Nat) (cs : Array Value) (t : TypeId), w.heap[k]? = some (.cells cs t (0, 0)) → w'.heap[k]? = some (.cells cs t (0, 0))) : w'.ownsRow base e z v n xs := by
  obtain ⟨h1, h2⟩ := h; refine ⟨h1, ?_⟩
  rcases h2 with h2 | ⟨b, cap, cur, rfl, hbb, hh, r⟩
  · exact .inl h2
  · exact .inr ⟨b, cap, cur, rfl, hbb, hk _ _ _ hh, r⟩
theorem VS.from {α : Type} {B Bl : Nat} {f : α → List ByteArray} (hB : B + 2 < Bl) : OwnFrom Bl (fun s W => VS B (f s) W) := by
  rintro s W W' row ⟨vo, es, c, h1, h2, h3, h4, h5⟩ hg hr
  have hk : ∀ (k : Nat) (cs : Array Value) (t : TypeId), W.heap[k]? = some (.cells cs t (0, 0)) → W'.heap[k]? = some (.cells cs t (0, 0)) := fun k cs t hh => (grownBy_keeps_cells hg (fun r e => (hr r e).2) hh rfl).trans hh
  exact ⟨vo, es, c, hk _ _ _ h1, own_blocks h2 hk, (hg.block (B + 1) (Array.getElem?_eq_some_iff.1 h3).1 (fun e => by have := (hr _ e.symm).1; omega)).trans h3, h4, hk _ _ _ h5⟩
theorem VS.below {B : Nat} {ns : List ByteArray} {W W' : World} (h : VS B ns W) (hb : Below W.heap.size W W') : VS B ns W' := by
  obtain ⟨vo, es, c, h1, h2, h3, h4, h5⟩ := h
  have hk : ∀ (k : Nat) (o : Obj), W.heap[k]? = some o → W'.heap[k]? = some o := fun k o hh => (hb.block k (Array.getElem?_eq_some_iff.1 hh).1).trans hh
  exact ⟨vo, es, c, hk _ _ h1, own_blocks h2 (fun k cs t hh => hk _ _ hh), hk _ _ h3, h4, hk _ _ h5⟩
theorem foldl_len : ∀ (l : List Tm) (ns : List ByteArray), (l.foldl nmStep ns).length ≤ ns.length + l.length
  | [], ns => by simp
  | x :: r, ns => by
    have h := foldl_len r (nmStep ns x)
    have h2 : (nmStep ns x).length ≤ ns.length + 1 := by
      unfold nmStep
      split
      · omega
      · split
        · omega
        · simp
    simp only [List.foldl_cons, List.length_cons]
    omega
theorem own_formS {w : World} {base n e z : Nat} {v : Value} {xs : List Value} (h : w.ownsRow base e z v n xs) : ∃ A c, v = .slice A n c := by
  rcases h.2 with ⟨hv, h0⟩ | ⟨b, cap, cur, hv, _⟩
  · exact ⟨none, 0, by rw [hv, h0]⟩
  · exact ⟨_, _, hv⟩
theorem q15 {W : World} {k : Nat} {o : Obj} (h : W.heap[k]? = some o) (o' : Obj) : (W.alloc o').heap[k]? = some o := (Below.heap_alloc W o' k (Array.getElem?_eq_some_iff.1 h).1).trans h
theorem own_neS {w : World} {base n e z : Nat} {v : Value} {xs : List Value} {g : Nat} {cs : Array Value} {t : TypeId} (h : w.ownsRow base e z v n xs) (hg : w.heap[g]? = some (.cells cs t (0, 0))) (he : t ≠ e) : some g ≠ v.ownBlock := by
  rcases h.2 with ⟨rfl, _⟩ | ⟨b, cap, cur, rfl, _, hk, _⟩
  · simp [Value.ownBlock]
  · intro hh
    obtain rfl : g = b := by simpa [Value.ownBlock] using hh
    rw [hg] at hk
    injection hk with hk
    injection hk with _ h2 _
    exact he h2
theorem own_cellsS {w : World} {base n e z : Nat} {v : Value} {xs : List Value} (h : w.ownsRow base e z v n xs) {j : Nat} (hj : v.ownBlock = some j) : ∃ cs, w.heap[j]? = some (.cells cs e (0, 0)) := by
  rcases h.2 with ⟨rfl, _⟩ | ⟨b, cap, cur, rfl, _, hk, _⟩
  · simp [Value.ownBlock] at hj
  · obtain rfl : b = j := by simpa [Value.ownBlock] using hj
    exact ⟨cur, hk⟩
theorem own_farS {w : World} {base n e z : Nat} {v : Value} {xs : List Value} (h : w.ownsRow base e z v n xs) (g i : Nat) (u : Value) (hne : some g ≠ v.ownBlock) : (w.setCell ⟨g, i, none⟩ u).ownsRow base e z v n xs := by
  obtain ⟨h1, h2⟩ := h; refine ⟨h1, ?_⟩
  rcases h2 with h2 | ⟨b, cap, cur, rfl, hb, hh, r⟩
  · exact .inl h2
  · exact .inr ⟨b, cap, cur, rfl, hb, (Below.heap_setCell w ⟨g, i, none⟩ u b (fun e => hne (by rw [show g = b from e.symm]; rfl))).trans hh, r⟩
theorem info_str : (Try.prog.info? 9).map (fun i => (i.zero, i.size, i.bytes)) = some (some (.string ⟨#[]⟩), 1, 16) := by kernel_rfl
theorem wpListIn_append_str {F : Fence} {n : Nat} (w : World) {ops : Array Oper} {rest : List Oper} {o : Oper} {a : Act} {Q : Exit → Act → World → Prop} (hg : o.guard = none) (s x : Operand)
    (hop : o.op = Op.call { callee := Callee.builtin Builtin.append, args := #[s, x], argTypes := #[23, 23] }) (base : Nat) (v : Value) (ns : List ByteArray) (hs : a.eval s = v) (hown : w.ownsRow base 9 1 v ns.length (ns.map Value.string))
    (b : Nat) (nm : ByteArray) (hx : a.eval x = .slice (some ⟨b, 0, none⟩) 1 1) (hcell : w.cell? ⟨b, 0, none⟩ = some (.string nm)) (hl : ns.length ≤ 1048576) (hb : base ≤ w.heap.size)
    (hK : ∀ A' c' w', w'.ownsRow base 9 1 (.slice A' (ns.length + 1) c') (ns.length + 1) ((ns ++ [nm]).map Value.string) → w.grownBy w' v.ownBlock → wpListIn F n Try.prog ops Q rest (a.put o.dst (.slice A' (ns.length + 1) c')) w') :
    wpListIn F n Try.prog ops Q (o :: rest) a w := by
  obtain ⟨i0, hi, hz0, hz1, hz2⟩ := info_parts info_str; refine wpListIn_append_own w hg s x 23 hop base 9 i0 (.string ⟨#[]⟩) 1 16 Try.underlying23 hi hz0 hz1 hz2 rfl (by decide) v ns.length _ hs hown ⟨b, 0, none⟩ 1 1 [.string nm] hx rfl ?_ (by simp [Value.oneCell']) (by simp only [maxLen]; omega) (by omega) hb ?_
  · intro j u hj; rw [add_plain]
    match j, hj with
    | 0, hj => exact hcell.trans hj
  · intro v' w' h1 h2 _; obtain ⟨A', c', rfl⟩ := own_formS h1; exact hK A' c' w' (by rw [List.map_append]; exact h1) h2
set_option maxRecDepth 100000 in
set_option maxHeartbeats 4000000 in
theorem Variables.calls (A0 : Option Addr) (c0 : Nat) (l0 : List (S42)) (w : World) (hr0 : Kd.C k42 w A0 l0.length l0) (hc0 : l0.length ≤ c0) (hb0 : bk42s l0 ≤ 1048576) :
    Calls Try.prog 65 #[.slice A0 l0.length c0] w fun e w' => ∃ v, e = .returned v ∧ w'.ownsRow w.heap.size 9 1 v (namesL l0).length ((namesL l0).map Value.string) ∧ Below w.heap.size w w' := by
  refine calls_of_wp_marks Try.func65 rfl ?_; simp only [Try.ntmps65, List.size_toArray, List.length_cons, List.length_nil, Nat.reduceAdd, Nat.reduceSub, Array.replicate_succ, Array.replicate_zero, List.push_toArray, List.append_toArray, List.nil_append, List.cons_append]; have hmm := @run_makeMap Try.prog
  go_wp2_with (go_at_call 108; refine (callsIn_wide.1 (all_in 0 A0 l0.length c0 _)).mono ?_; rintro e w' ⟨rfl, rfl⟩)
  obtain ⟨Wl, hWl⟩ : ∃ Wl, ((((w.alloc (.cells #[.slice none 0 0] 23)).alloc (.map #[] 0)).alloc (.cells #[.map (some (w.heap.size + 1))] 155)).alloc (.cells #[.slice A0 l0.length c0] 22)) = Wl := ⟨_, rfl⟩
  have hbl : Below w.heap.size w Wl := by rw [← hWl]; exact ((((Below.refl _ w).alloc (Nat.le_refl _) _).alloc (by simp) _).alloc (by simp; omega) _).alloc (by simp <;> omega) _
  have hszl : Wl.heap.size = w.heap.size + 4 := by rw [← hWl]; simp
  have hk0 : Wl.heap[w.heap.size]? = some (.cells #[.slice none 0 0] 23 (0, 0)) := by
    rw [← hWl]; exact (Below.heap_alloc _ _ _ (by simp; omega)).trans ((Below.heap_alloc _ _ _ (by simp; omega)).trans ((Below.heap_alloc _ _ _ (by simp)).trans (World.alloc_heap_new w _)))
  have hk1 : Wl.heap[w.heap.size + 1]? = some (.map #[] 0) := by
    rw [← hWl]; have := (MapKept.heap_alloc (w.alloc (.cells #[.slice none 0 0] 23)) (.map #[] 0)).1; rw [World.size_alloc] at this; exact (Below.heap_alloc _ _ _ (by simp <;> omega)).trans ((Below.heap_alloc _ _ _ (by simp <;> omega)).trans this)
  have hk2 : Wl.heap[w.heap.size + 2]? = some (.cells #[.map (some (w.heap.size + 1))] 155 (0, 0)) := by
    rw [← hWl]; have := World.alloc_heap_new ((w.alloc (.cells #[.slice none 0 0] 23)).alloc (.map #[] 0)) (.cells #[.map (some (w.heap.size + 1))] 155); rw [World.size_alloc, World.size_alloc] at this; exact (Below.heap_alloc _ _ _ (by simp)).trans this
  have hl3 : Wl.heap[w.heap.size + 3]? = some (.cells #[.slice A0 l0.length c0] 22 (0, 0)) := by
    rw [← hWl]; have := World.alloc_heap_new (((w.alloc (.cells #[.slice none 0 0] 23)).alloc (.map #[] 0)).alloc (.cells #[.map (some (w.heap.size + 1))] 155)) (.cells #[.slice A0 l0.length c0] 22); rw [World.size_alloc, World.size_alloc, World.size_alloc] at this; exact this
  have hv0 : VS w.heap.size [] Wl := ⟨_, _, _, hk0, World.ownsRow_nil _ _ _ _, hk1, rfl, hk2⟩; rw [hWl]; obtain ⟨i0, hi, hz0, hz1, hz2⟩ := info_parts info_str; refine range_allHD w hbl (w.heap.size + 3) A0 c0 l0 hr0 hc0 ((q4 hl3 0).trans rfl) rfl
    (fun pre W => (Below w.heap.size w W ∧ VS w.heap.size ((pre.map (·.x)).foldl nmStep []) W) ∧ Wl.heap.size ≤ W.heap.size)
    (fun c pre W => False)
    (OwnFrom.and (OwnFrom.and (ownFrom_below (Nat.le_refl _) hbl.size) (VS.from (by omega))) (ownFrom_size _ _))
    (fun _ => fun _ _ _ _ h _ _ => h)
    ⟨⟨hbl, hv0⟩, Nat.le_refl _⟩
    (fun x a' W => ∃ B, Wl.heap.size ≤ B ∧ W.heap[B]? = some (.cells #[.int .i64 x.x.f0, .string x.x.f1, .slice x.A x.x.f2.length x.c] 42 (0, 0)) ∧
      a' = { tmps := #[.slice A0 l0.length c0, undef, .slice none 0 0, .pointer (some ⟨w.heap.size, 0, none⟩), .pointer (some ⟨w.heap.size + 1 + 1, 0, none⟩), .pointer (some ⟨B, 0, none⟩), undef, .map (some (w.heap.size + 1)), .slice A0 l0.length c0, .func (.func 145) #[] #[.pointer (some ⟨w.heap.size + 1 + 1 + 1, 0, none⟩)], .agg #[.int .i64 x.x.f0, .string x.x.f1, .slice x.A x.x.f2.length x.c], undef, undef, undef, undef, undef, undef, undef, undef, undef, undef, undef, undef, undef, undef, undef, undef, undef], defers := [] })
    (fun x a' s W W' row hs hg hr => by
      obtain ⟨B, h1, h2, h3⟩ := hs
      exact ⟨B, h1, (grownBy_keeps_cells hg (fun r e => (hr r e).2) h2 rfl).trans h2, h3⟩) ?assign ?body ?done ?stop
  case assign =>
    rintro lp pre x Wx K ⟨⟨hbx, hvx⟩, hszx⟩ hK; have HK0 := Aside0.mk hK; have HVX := Aside0.mk hvx; clear hK hvx hk0 hk1 hk2 hl3 hv0 hWl hmm; have hu42 := Try.underlying42
    gi_wp2
    have hal : Below Wx.heap.size Wx (Wx.alloc (.cells #[.int .i64 x.x.f0, .string x.x.f1, .slice x.A x.x.f2.length x.c] 42)) := (Below.refl _ Wx).alloc (Nat.le_refl _) _; exact HK0.out _ _ (keepsFrom_below hal) (KeepD.ofBelow hal hbx.size) ⟨⟨hbx.trans (hal.mono hbx.size), HVX.out.below hal⟩, Nat.le_trans hszx hal.size⟩
      ⟨Wx.heap.size, hszx, World.alloc_heap_new Wx _, rfl⟩
  case body =>
    rintro lp pre x a' Wx ⟨⟨hbx, hvx⟩, hszx⟩ ⟨B, hBx, hxb, rfl⟩ hlen; have hx0 : Wx.cell? ⟨B, 0, none⟩ = some (.int .i64 x.x.f0) := (q4 hxb 0).trans rfl; have hx1 : Wx.cell? ⟨B, 1, none⟩ = some (.string x.x.f1) := (q4 hxb 1).trans rfl; have hx2 : Wx.cell? ⟨B, 2, none⟩ = some (.slice x.A x.x.f2.length x.c) := (q4 hxb 2).trans rfl; have hCx : Kd.C k42 Wx x.A x.x.f2.length x.x.f2 := Kd.C_below x.hr hbx; have HVX := Aside0.mk hvx; have hu42 := Try.underlying42; clear hvx hxb hk0 hk1 hk2 hl3 hv0 hWl hmm
    have hsz : x.x.f1.size ≤ 140737488355328 := by have := flat_bk x.hm; omega
    obtain ⟨ns, hns⟩ : ∃ ns, ns = (pre.map (·.x)).foldl nmStep [] := ⟨_, rfl⟩
    have hnx : ((pre ++ [x]).map (·.x)).foldl nmStep [] = nmStep ns x.x := by rw [List.map_append, List.foldl_append, ← hns]; rfl
    rw [← hns] at HVX; have HNS := Aside0.mk hns; have HNX := Aside0.mk hnx; have hcall := Name.calls x.x.f0 x.x.f1 x.A x.c x.x.f2 Wx hCx x.hc hsz; obtain ⟨nm, hnm⟩ : ∃ nm, nm = nameB x.x.f0 x.x.f1 := ⟨_, rfl⟩; rw [← hnm] at hcall; have HNM := Aside0.mk hnm; have HCALL := Aside0.mk hcall; clear hns hnx hcall hnm hsz hCx
    gi_wp2_with (fail)
    refine ⟨trivial, (CallsIn.inRound lp (callsIn_wide.2 HCALL.out)).mono ?_⟩; rintro e w4 ⟨rfl, hb4⟩; obtain ⟨vo, es, c, h1, h2, h3, h4, h5⟩ := HVX.out.below hb4; have y1 : w4.cell? ⟨w.heap.size, 0, none⟩ = some vo := (q4 h1 0).trans rfl; have yf : w4.frozen? ⟨w.heap.size, 0, none⟩ = false := q11 h1 0; have y5 : w4.cell? ⟨w.heap.size + 1 + 1, 0, none⟩ = some (.map (some (w.heap.size + 1))) := (q4 h5 0).trans rfl; have hlk := met_lookup h3 h4 nm; have HB4 := Aside0.mk hb4; have HV4 := Aside0.mk (HVX.out.below hb4)
    have hdef : nmStep ns x.x = if nm.data.toList = [] then ns else if hasB ns nm = true then ns else ns ++ [nm] := by unfold nmStep; rw [← HNM.out]
    have HDEF := Aside0.mk hdef; clear hx0 hx1 hx2 hb4 hdef
    by_cases he : nm.data.toList = []
    · have hz : (nm.toList == ([] : List UInt8)) = true := by rw [toList_data, he]; rfl
      have HST : Aside0 (nmStep ns x.x = ns) := ⟨by rw [HDEF.out, if_pos he]⟩; clear he hlk h1 h2 h3 h4 h5 y1 yf y5
      gi_wp2
      refine ⟨keepsFrom_below HB4.out, KeepD.ofBelow HB4.out hbx.size, ⟨q12 hbx HB4.out, ?_⟩, Nat.le_trans hszx HB4.out.size⟩; rw [HNX.out, HST.out]; exact HV4.out
    · have hz : (nm.toList == ([] : List UInt8)) = false := by
        rw [toList_data]
        cases hh : nm.data.toList with
        | nil => exact absurd hh he
        | cons a r => rfl
      have HST : Aside0 (nmStep ns x.x = if hasB ns nm = true then ns else ns ++ [nm]) := ⟨by rw [HDEF.out, if_neg he]⟩; clear he
      cases hh : hasB ns nm with
      | true =>
        rw [hh] at hlk HST; clear h1 h2 h3 h4 h5 y1 yf hh
        gi_wp2
        refine ⟨keepsFrom_below HB4.out, KeepD.ofBelow HB4.out hbx.size, ⟨q12 hbx HB4.out, ?_⟩, Nat.le_trans hszx HB4.out.size⟩; rw [HNX.out, HST.out]; exact HV4.out
      | false =>
        have hup := met_update h3 h4 nm hh; rw [hh] at hlk HST; have HHH := Aside0.mk hh; have H1 := Aside0.mk h1; have H2 := Aside0.mk h2; have H3 := Aside0.mk h3; have HH4 := Aside0.mk h4; have H5 := Aside0.mk h5; obtain ⟨w5, hw5⟩ : ∃ w5, w4.putObj (w.heap.size + 1) (.map (es.push { key := .string nm, val := .bool true, born := c }) (c + 1)) = w5 := ⟨_, rfl⟩
        have hoth : ∀ k, k ≠ w.heap.size + 1 → w5.heap[k]? = w4.heap[k]? := fun k hk => by rw [← hw5]; exact World.putObj_heap_other hk
        have g1 : w5.heap[w.heap.size]? = some (.cells #[vo] 23 (0, 0)) := (hoth _ (by omega)).trans h1
        have g3 : w5.heap[w.heap.size + 1]? = some (.map (es.push { key := .string nm, val := .bool true, born := c }) (c + 1)) := by rw [← hw5]; exact (MapKept.heap_set h3).1
        have g5 : w5.heap[w.heap.size + 2]? = some (.cells #[.map (some (w.heap.size + 1))] 155 (0, 0)) := (hoth _ (by omega)).trans h5; have g2 : w5.ownsRow w.heap.size 9 1 vo ns.length (ns.map Value.string) := own_blocks h2 (fun k cs t hk => (hoth k (fun e => by subst e; rw [h3] at hk; cases hk)).trans hk)
        have hgr : w4.grownBy w5 (some (w.heap.size + 1)) := by rw [← hw5]; exact grownBy_putObj' w4 _ _
        have hkd : KeepD w.heap.size Wl.heap.size w4 w5 := by rw [← hw5]; exact KeepD.put w4 _ _ _ (by omega) h3 rfl
        have hb5 : Below w.heap.size w w5 := by rw [← hw5]; exact putObj_below (q12 hbx HB4.out) _ _ (by omega) (q12 hbx HB4.out).size
        rw [hw5] at hup; have q1 : w5.cell? ⟨w.heap.size, 0, none⟩ = some vo := (q4 g1 0).trans rfl; have HG1 := Aside0.mk g1; have HG2 := Aside0.mk g2; have HG3 := Aside0.mk g3; have HG5 := Aside0.mk g5; have HGR := Aside0.mk hgr; have HKD := Aside0.mk hkd; have HB5 := Aside0.mk hb5
        have HNL : Aside0 (ns.length ≤ 1048576) := ⟨by
          have e1 := foldl_len (pre.map (·.x)) []; rw [HNS.out]; have e2 := flat_len l0; rw [List.length_map] at e1; simp only [List.length_nil] at e1
          omega⟩
        clear h1 h2 h3 h4 h5 hh hoth g1 g2 g3 g5 hgr hkd hb5 hw5; have HSZ5 : Aside0 (w.heap.size ≤ (w5.alloc (.cells #[.string nm] 9)).heap.size) := ⟨by have := HB5.out.size; simp; omega⟩; have HCL5 : Aside0 ((w5.alloc (.cells #[.string nm] 9)).cell? ⟨w5.heap.size, 0, none⟩ = some (.string nm)) := ⟨(q4 (World.alloc_heap_new w5 _) 0).trans rfl⟩; have HGA := Aside0.mk (own_blocks HG2.out (fun k cs t hk => q15 hk (.cells #[.string nm] 9))); have HG1A := Aside0.mk (q15 HG1.out (.cells #[.string nm] 9))
        gi_wp2_with (first | (gi_at_builtin; refine wpListIn_append_str _ rfl _ _ rfl w.heap.size vo ns rfl HGA.out w5.heap.size nm rfl HCL5.out HNL.out HSZ5.out ?_; intro A6 c6 w6 hown6 hgrow6; have HO6 := Aside0.mk hown6; have HGR6 := Aside0.mk hgrow6; have hg16 := blk_grown HG1A.out hgrow6 (own_neS HGA.out HG1A.out (by decide)); have HG16 := Aside0.mk hg16; have u1 : w6.cell? ⟨w.heap.size, 0, none⟩ = some vo := (q4 hg16 0).trans rfl; have uf := q11 hg16 0; clear hown6 hgrow6 hg16) | fail)
        have hrow : ∀ j, vo.ownBlock = some j → ∃ cs, (w5.alloc (.cells #[.string nm] 9)).heap[j]? = some (.cells cs 9 (0, 0)) := fun j hj => own_cellsS HGA.out hj
        have hge : ∀ j, vo.ownBlock = some j → w.heap.size ≤ j := fun j hj => (HGA.out.lt j hj).1
        have hal : Below w5.heap.size w5 (w5.alloc (.cells #[.string nm] 9)) := (Below.refl _ _).alloc (Nat.le_refl _) _; have hw6s := HGR6.out.size
        have k3 : w6.heap[w.heap.size + 1]? = some (.map (es.push { key := .string nm, val := .bool true, born := c }) (c + 1)) := blk_grown (q15 HG3.out _) HGR6.out (fun e => by
          obtain ⟨cs, hcs⟩ := hrow _ e.symm
          rw [q15 HG3.out] at hcs; cases hcs)
        have k5 : w6.heap[w.heap.size + 2]? = some (.cells #[.map (some (w.heap.size + 1))] 155 (0, 0)) := blk_grown (q15 HG5.out _) HGR6.out (own_neS HGA.out (q15 HG5.out _) (by decide)); refine ⟨?_, ?_, ⟨?_, ?_⟩, ?_⟩
        · refine (keepsFrom_below HB4.out).trans ((KeepsFrom.of_grownBy HGR.out (fun j e => by cases e; omega)).trans (((KeepsOthers.alloc _ _).from _).trans (((KeepsOthers.of_grownBy HGR6.out (fun j o hj ho => ?_)).from _).trans ((KeepsOthers.setCell _ _ _).from _)))); obtain ⟨cs, hcs⟩ := hrow j hj; rw [hcs] at ho; cases ho; rfl
        · exact (KeepD.ofBelow HB4.out hbx.size).trans (HKD.out.trans ((KeepD.ofBelow hal HB5.out.size).trans ((KeepD.grown HGR6.out HSZ5.out hge (fun j hj => by obtain ⟨cs, hcs⟩ := hrow j hj; exact ⟨cs, _, hcs⟩)).trans (KeepD.setCell _ _ _ _ (Nat.le_refl _) (by omega)))))
        · exact (((HB5.out.trans (hal.mono HB5.out.size)).grown HGR6.out HSZ5.out hge).setCell (p := ⟨w.heap.size, 0, none⟩) (by simp) _)
        · rw [HNX.out, HST.out, if_neg (by decide)]; refine ⟨_, _, _, setCell_blk HG16.out, ?_, (Below.heap_setCell w6 ⟨w.heap.size, 0, none⟩ _ _ (by simp)).trans k3, HH4.out.push nm c, (Below.heap_setCell w6 ⟨w.heap.size, 0, none⟩ _ _ (by simp)).trans k5⟩; have := own_farS HO6.out w.heap.size 0 (.slice A6 (ns.length + 1) c6) (own_neS HO6.out HG16.out (by decide))
          simpa using this
        · have := HB5.out.size; have h1 := HB4.out.size; have h2 := HGR.out.size; have h3 := hal.size; simp only [World.setCell] at *; simp
          omega
  case done =>
    rintro D ys W hD hys ⟨⟨hb, hv⟩, hsz⟩ hkD; rw [hys] at hv; obtain ⟨vo, es, c, h1, h2, h3, h4, h5⟩ := hv; have y1 : W.cell? ⟨w.heap.size, 0, none⟩ = some vo := (q4 h1 0).trans rfl; have H2 := Aside0.mk h2; have HKD := Aside0.mk hkD; have H1 := Aside0.mk h1; clear h1 h2 h3 h4 h5 hkD hk0 hk1 hk2 hl3 hv0 hWl hmm hys
    go_wp2
    refine leave1 HKD.out (fun W' => results_tmp rfl _ _ _) ⟨vo, rfl, ?_, putObj_below hb D _ (by omega) hb.size⟩; exact own_blocks H2.out (fun k cs t hk => (World.putObj_heap_other (fun e => by subst e; rw [HKD.out] at hk; cases hk)).trans hk)
  case stop =>
    rintro D c pre W hD hpre h hkD; exact h.elim
end
end Go.Proofs.Ytjhjhhibbmligaa.TE
