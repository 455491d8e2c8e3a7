import Derived.Test.YtlopceimlipemaaRAll
import Derived.Maps.AppendAt
namespace Go.Proofs.Ytlopceimlipemaa.Rope
open Go.RowKit Go.Proofs.YtlopceimlipemaaW.PrintWords Go.Proofs.YtlopceimlipemaaW.PrintLast Go.Proofs.YtlopceimlipemaaW.PrintMore Go.Shelf
set_option linter.unusedVariables false
set_option linter.unusedSimpArgs false
attribute [local go_sem] Oper.semAt_some

theorem items_snd_int : ∀ (f : Int) (l : List Int), (items_int f false l).map (fun y => ((.int .i64 : Int → Value)) y.2) = l.map ((.int .i64 : Int → Value))
  | f, [] => rfl
  | f, x :: r => by
    have ih := items_snd_int (f + 1) r
    simp only [items_int, Bool.false_eq_true, if_false, idx_int, List.map_cons] at ih ⊢
    rw [ih]
set_option maxRecDepth 100000 in
set_option maxHeartbeats 4000000 in
theorem List_int.calls (p : Option Addr) (t : Option (Tr Int)) (w : World) (h : IsO K_int w p t) (hs : lenO t * 8 ≤ 140737488351232) :
    Calls Try.prog 26 #[.agg #[.pointer p]] w fun e w' => ∃ v, e = .returned v ∧ w'.ownsRow w.heap.size 3 1 v (listO t).length ((listO t).map ((.int .i64 : Int → Value))) ∧ (v = .slice none 0 0 ↔ listO t = []) ∧ Below w.heap.size w w' := by
  obtain ⟨i0, hi, hz0, hz1, hz2⟩ := info_parts info_int
  have hml : (140737488351232 : Nat) ≤ maxLen := by decide
  refine calls_of_wp_marks Try.func26 rfl ?_
  simp only [Try.ntmps26, List.size_toArray, List.length_cons, List.length_nil, Nat.reduceAdd, Nat.reduceSub, Array.replicate_succ, Array.replicate_zero, List.push_toArray, List.append_toArray, List.nil_append, List.cons_append]
  go_wp2_with (go_at_call 13; refine (All_int.calls p _).mono ?_; rintro e w' ⟨rfl, rfl⟩)
  obtain ⟨k0, k1, k2, hbl⟩ := alloc3 w (.cells #[.pointer p] 26) (.cells #[.slice none 0 0] 22) (.cells #[.pointer p] 26)
  obtain ⟨Wl, hWl⟩ : ∃ Wl, ((w.alloc (.cells #[.pointer p] 26)).alloc (.cells #[.slice none 0 0] 22)).alloc (.cells #[.pointer p] 26) = Wl := ⟨_, rfl⟩
  rw [hWl] at k0 k1 k2 hbl ⊢
  have hsz : Wl.heap.size = w.heap.size + 3 := by rw [← hWl]; simp
  clear hWl k0
  have hdd : ∀ k lp : Nat, ((Fence.wide.inRound lp).depth.isSome = true → 1 ≤ k) := fun k lp h => by simp [Fence.wide] at h
  refine rangeAll_int w hbl (w.heap.size + 2) p t h (by omega) ((blk_cell k2 0).trans rfl) rfl
    (fun pre W => (∃ v, Boxed W (w.heap.size + 1) 22 v ∧ W.ownsRow w.heap.size 3 1 v pre.length (pre.map fun y => ((.int .i64 : Int → Value)) y.2) ∧ (v = .slice none 0 0 ↔ pre = [])) ∧ Below w.heap.size w W)
    (fun _ _ _ => False)
    (OwnFrom.and (Own.from (holdsRow_own w.heap.size (w.heap.size + 1) 22 3 1 (fun pre => pre.length) (fun pre => pre.map fun y : Int × Int => ((.int .i64 : Int → Value)) y.2) (fun pre v => v = .slice none 0 0 ↔ pre = [])) _) (ownFrom_below (Nat.le_refl _) hbl.size)) (fun _ _ _ _ _ hs _ _ => hs)
    ⟨⟨_, k1, World.ownsRow_nil _ _ _ _, by simp⟩, hbl⟩
    (fun x => { tmps := #[.agg #[.pointer p], .pointer (some ⟨w.heap.size, 0, none⟩), .slice none 0 0, .pointer (some ⟨w.heap.size + 1, 0, none⟩), undef, ((.int .i64 : Int → Value)) x.2, .agg #[.pointer p], .func (.func 49) #[] #[.pointer (some ⟨w.heap.size + 2, 0, none⟩)], .int .i64 x.1, ((.int .i64 : Int → Value)) x.2, undef, undef, undef, undef, undef], defers := [] }) ?assign ?body ?done ?stop
  case assign =>
    intro lp x W K hK
    gi_wp2
    exact hK
  case body =>
    rintro lp pre x W ⟨⟨v, hv, hrow, hnil⟩, hB⟩ hlt
    have hc := hv.cell
    have hn1 : v = .slice none 0 0 ∨ 1 ≤ pre.length := by
      cases pre with
      | nil => exact .inl (hnil.2 rfl)
      | cons a b => exact .inr (by simp)
    gi_wp2_with (gi_at_builtin; refine wpListIn_append_own1 _ rfl _ _ 22 rfl w.heap.size 3 i0 (Value.int .i64 0) 1 8 Try.underlying22 hi hz0 hz1 hz2 rfl (by decide) _ _ _ rfl (hrow.alloc _) hn1 ⟨W.heap.size, 0, none⟩ 1 1 [((.int .i64 : Int → Value)) x.2] rfl rfl (cell_one_new _ _ _) (by simp [Value.oneCell']) (by omega) (by omega) (by omega) (by have := hB.size; simp; omega) ?_; intro v' w1 hown' hgrow hone; obtain ⟨g', cap', rfl⟩ := ownsRow_succ hown'; obtain ⟨hv1, hv2, hr2, hk2, hb2⟩ := hv.appended (by decide) hrow hB.size (Nat.le_succ _) hown' hgrow; have hc1 := hv1.cell; have hf1 := hv1.frozen)
    refine ⟨hk2, ⟨hb2, ?_⟩, ⟨⟨_, hv2, by simpa using hr2, by simp⟩, hB.trans hb2⟩⟩
    intro k u tt fr hk hu
    have hne : k ≠ w.heap.size + 1 := by omega
    exact (Below.heap_setCell _ _ _ k hne).trans (hone k u tt fr ((Below.heap_alloc _ _ _ (Array.getElem?_eq_some_iff.1 hu).1).trans hu))
  case done =>
    rintro D W hD ⟨⟨v, hv, hrow, hnil⟩, hB⟩ hK
    have hc := hv.cell
    have e1 : (itemsO_int 0 false t).length = (listO t).length := items_len_int _ _ _
    have e2 : (itemsO_int 0 false t).map (fun y => ((.int .i64 : Int → Value)) y.2) = (listO t).map ((.int .i64 : Int → Value)) := items_snd_int 0 (listO t)
    have e3 : itemsO_int 0 false t = [] ↔ listO t = [] := by rw [← List.length_eq_zero_iff, e1, List.length_eq_zero_iff]
    rw [e1, e2] at hrow
    rw [e3] at hnil
    have HR := Aside0.mk hrow
    have HN := Aside0.mk hnil
    clear hrow hnil
    go_wp2
    refine ⟨by simp, .inl ⟨_, _, rfl, run_takeDeferred hK, ?_⟩⟩
    exact ⟨_, results_tmp rfl _ _ _, v, rfl, ownsRow_putObj HR.out _ hK rfl, HN.out, hB.trans (belowK_b (w := w) (Nat.le_refl _) W D _ _ (by have := hbl.size; omega) hK rfl rfl)⟩
  case stop =>
    rintro D c pre W _ _ h _
    exact h.elim

end Go.Proofs.Ytlopceimlipemaa.Rope

namespace Go.Proofs.Ytlopceimlipemaa.Rope
open Go.RowKit Go.Proofs.YtlopceimlipemaaW.PrintWords Go.Proofs.YtlopceimlipemaaW.PrintLast Go.Proofs.YtlopceimlipemaaW.PrintMore Go.Shelf
set_option linter.unusedVariables false
set_option linter.unusedSimpArgs false
attribute [local go_sem] Oper.semAt_some

theorem items_snd_string : ∀ (f : Int) (l : List ByteArray), (items_string f false l).map (fun y => (Value.string) y.2) = l.map (Value.string)
  | f, [] => rfl
  | f, x :: r => by
    have ih := items_snd_string (f + 1) r
    simp only [items_string, Bool.false_eq_true, if_false, idx_string, List.map_cons] at ih ⊢
    rw [ih]
set_option maxRecDepth 100000 in
set_option maxHeartbeats 4000000 in
theorem List_string.calls (p : Option Addr) (t : Option (Tr ByteArray)) (w : World) (h : IsO K_string w p t) (hs : lenO t * 16 ≤ 140737488351232) :
    Calls Try.prog 45 #[.agg #[.pointer p]] w fun e w' => ∃ v, e = .returned v ∧ w'.ownsRow w.heap.size 9 1 v (listO t).length ((listO t).map (Value.string)) ∧ (v = .slice none 0 0 ↔ listO t = []) ∧ Below w.heap.size w w' := by
  obtain ⟨i0, hi, hz0, hz1, hz2⟩ := info_parts info_string
  have hml : (140737488351232 : Nat) ≤ maxLen := by decide
  refine calls_of_wp_marks Try.func45 rfl ?_
  simp only [Try.ntmps45, List.size_toArray, List.length_cons, List.length_nil, Nat.reduceAdd, Nat.reduceSub, Array.replicate_succ, Array.replicate_zero, List.push_toArray, List.append_toArray, List.nil_append, List.cons_append]
  go_wp2_with (go_at_call 67; refine (All_string.calls p _).mono ?_; rintro e w' ⟨rfl, rfl⟩)
  obtain ⟨k0, k1, k2, hbl⟩ := alloc3 w (.cells #[.pointer p] 74) (.cells #[.slice none 0 0] 76) (.cells #[.pointer p] 74)
  obtain ⟨Wl, hWl⟩ : ∃ Wl, ((w.alloc (.cells #[.pointer p] 74)).alloc (.cells #[.slice none 0 0] 76)).alloc (.cells #[.pointer p] 74) = Wl := ⟨_, rfl⟩
  rw [hWl] at k0 k1 k2 hbl ⊢
  have hsz : Wl.heap.size = w.heap.size + 3 := by rw [← hWl]; simp
  clear hWl k0
  have hdd : ∀ k lp : Nat, ((Fence.wide.inRound lp).depth.isSome = true → 1 ≤ k) := fun k lp h => by simp [Fence.wide] at h
  refine rangeAll_string w hbl (w.heap.size + 2) p t h (by omega) ((blk_cell k2 0).trans rfl) rfl
    (fun pre W => (∃ v, Boxed W (w.heap.size + 1) 76 v ∧ W.ownsRow w.heap.size 9 1 v pre.length (pre.map fun y => (Value.string) y.2) ∧ (v = .slice none 0 0 ↔ pre = [])) ∧ Below w.heap.size w W)
    (fun _ _ _ => False)
    (OwnFrom.and (Own.from (holdsRow_own w.heap.size (w.heap.size + 1) 76 9 1 (fun pre => pre.length) (fun pre => pre.map fun y : Int × ByteArray => (Value.string) y.2) (fun pre v => v = .slice none 0 0 ↔ pre = [])) _) (ownFrom_below (Nat.le_refl _) hbl.size)) (fun _ _ _ _ _ hs _ _ => hs)
    ⟨⟨_, k1, World.ownsRow_nil _ _ _ _, by simp⟩, hbl⟩
    (fun x => { tmps := #[.agg #[.pointer p], .pointer (some ⟨w.heap.size, 0, none⟩), .slice none 0 0, .pointer (some ⟨w.heap.size + 1, 0, none⟩), undef, (Value.string) x.2, .agg #[.pointer p], .func (.func 80) #[] #[.pointer (some ⟨w.heap.size + 2, 0, none⟩)], .int .i64 x.1, (Value.string) x.2, undef, undef, undef, undef, undef], defers := [] }) ?assign ?body ?done ?stop
  case assign =>
    intro lp x W K hK
    gi_wp2
    exact hK
  case body =>
    rintro lp pre x W ⟨⟨v, hv, hrow, hnil⟩, hB⟩ hlt
    have hc := hv.cell
    have hn1 : v = .slice none 0 0 ∨ 1 ≤ pre.length := by
      cases pre with
      | nil => exact .inl (hnil.2 rfl)
      | cons a b => exact .inr (by simp)
    gi_wp2_with (gi_at_builtin; refine wpListIn_append_own1 _ rfl _ _ 76 rfl w.heap.size 9 i0 (Value.string ⟨#[]⟩) 1 16 Try.underlying76 hi hz0 hz1 hz2 rfl (by decide) _ _ _ rfl (hrow.alloc _) hn1 ⟨W.heap.size, 0, none⟩ 1 1 [(Value.string) x.2] rfl rfl (cell_one_new _ _ _) (by simp [Value.oneCell']) (by omega) (by omega) (by omega) (by have := hB.size; simp; omega) ?_; intro v' w1 hown' hgrow hone; obtain ⟨g', cap', rfl⟩ := ownsRow_succ hown'; obtain ⟨hv1, hv2, hr2, hk2, hb2⟩ := hv.appended (by decide) hrow hB.size (Nat.le_succ _) hown' hgrow; have hc1 := hv1.cell; have hf1 := hv1.frozen)
    refine ⟨hk2, ⟨hb2, ?_⟩, ⟨⟨_, hv2, by simpa using hr2, by simp⟩, hB.trans hb2⟩⟩
    intro k u tt fr hk hu
    have hne : k ≠ w.heap.size + 1 := by omega
    exact (Below.heap_setCell _ _ _ k hne).trans (hone k u tt fr ((Below.heap_alloc _ _ _ (Array.getElem?_eq_some_iff.1 hu).1).trans hu))
  case done =>
    rintro D W hD ⟨⟨v, hv, hrow, hnil⟩, hB⟩ hK
    have hc := hv.cell
    have e1 : (itemsO_string 0 false t).length = (listO t).length := items_len_string _ _ _
    have e2 : (itemsO_string 0 false t).map (fun y => (Value.string) y.2) = (listO t).map (Value.string) := items_snd_string 0 (listO t)
    have e3 : itemsO_string 0 false t = [] ↔ listO t = [] := by rw [← List.length_eq_zero_iff, e1, List.length_eq_zero_iff]
    rw [e1, e2] at hrow
    rw [e3] at hnil
    have HR := Aside0.mk hrow
    have HN := Aside0.mk hnil
    clear hrow hnil
    go_wp2
    refine ⟨by simp, .inl ⟨_, _, rfl, run_takeDeferred hK, ?_⟩⟩
    exact ⟨_, results_tmp rfl _ _ _, v, rfl, ownsRow_putObj HR.out _ hK rfl, HN.out, hB.trans (belowK_b (w := w) (Nat.le_refl _) W D _ _ (by have := hbl.size; omega) hK rfl rfl)⟩
  case stop =>
    rintro D c pre W _ _ h _
    exact h.elim

end Go.Proofs.Ytlopceimlipemaa.Rope
