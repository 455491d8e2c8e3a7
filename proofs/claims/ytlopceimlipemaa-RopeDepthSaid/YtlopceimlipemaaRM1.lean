import Derived.Test.YtlopceimlipemaaRHelp
import Derived.Deep.RegionHeld3
import Derived.StillTailTactics
import Derived.Test.YtlopceimlipemaaRPart
import Derived.Deep.CutRange
/- Map of a rope of ints by a function that adds. -/
namespace Go.Proofs.Ytlopceimlipemaa.Rope
open Go.RowKit Go.Proofs.YtlopceimlipemaaW.PrintWords Go.Proofs.YtlopceimlipemaaW.PrintLast Go.Proofs.YtlopceimlipemaaW.PrintMore Go.Shelf
set_option linter.unusedVariables false
set_option linter.unusedSimpArgs false

def Tr.map (f : Int → Int) : Tr Int → Tr Int
  | .leaf xs => .leaf (xs.map f)
  | .fork a b => .fork (a.map f) (b.map f)
def mapO (f : Int → Int) : Option (Tr Int) → Option (Tr Int)
  | none => none
  | some t => some (t.map f)
theorem Tr.map_len (f : Int → Int) : ∀ t : Tr Int, (t.map f).len = t.len
  | .leaf xs => by simp [Tr.map, Tr.len]
  | .fork a b => by simp [Tr.map, Tr.len, a.map_len f, b.map_len f]
theorem Tr.map_ht (f : Int → Int) : ∀ t : Tr Int, (t.map f).ht = t.ht
  | .leaf xs => rfl
  | .fork a b => by simp [Tr.map, Tr.ht, a.map_ht f, b.map_ht f]
theorem Tr.map_list (f : Int → Int) : ∀ t : Tr Int, (t.map f).list = t.list.map f
  | .leaf xs => rfl
  | .fork a b => by simp [Tr.map, Tr.list, a.map_list f, b.map_list f]
theorem mapO_list (f : Int → Int) : ∀ t : Option (Tr Int), listO (mapO f t) = (listO t).map f
  | none => rfl
  | some t => t.map_list f
/-- A tree in memory whose nodes lie at or behind a block. -/
def IsF (lo : Nat) (W : World) : Option Addr → Tr Int → Prop
  | p, .leaf xs => ∃ b, p = some ⟨b, 0, none⟩ ∧ lo ≤ b ∧ 1 ≤ xs.length ∧ xs.length ≤ 16 ∧ W.heap[b]? = some (K_int.cells xs.length 1 none none (xs.flatMap K_int.enc ++ K_int.zs (16 - xs.length)))
  | p, .fork a c => ∃ b pa pc, p = some ⟨b, 0, none⟩ ∧ lo ≤ b ∧ IsF lo W pa a ∧ IsF lo W pc c ∧ W.heap[b]? = some (K_int.cells ((a.len + c.len : Nat) : Int) ((max a.ht c.ht + 1 : Nat) : Int) pa pc (K_int.zs 16))
theorem IsF.isN {lo : Nat} {W : World} : ∀ {p : Option Addr} {t : Tr Int}, IsF lo W p t → IsN K_int W p t
  | p, .leaf xs, ⟨b, hp, _, h1, h2, h3⟩ => ⟨b, hp, h1, h2, h3⟩
  | p, .fork a c, ⟨b, pa, pc, hp, _, ha, hc, h3⟩ => ⟨b, pa, pc, hp, ha.isN, hc.isN, h3⟩
theorem IsF.keep {lo lo' : Nat} {W W1 : World} (hlo : lo' ≤ lo) (h : ∀ (k : Nat) (o : Obj), lo ≤ k → W.heap[k]? = some o → W1.heap[k]? = some o) : ∀ {p : Option Addr} {t : Tr Int}, IsF lo W p t → IsF lo' W1 p t
  | p, .leaf xs, ⟨b, hp, hb, h1, h2, h3⟩ => ⟨b, hp, Nat.le_trans hlo hb, h1, h2, h _ _ hb h3⟩
  | p, .fork a c, ⟨b, pa, pc, hp, hb, ha, hc, h3⟩ => ⟨b, pa, pc, hp, Nat.le_trans hlo hb, ha.keep hlo h, hc.keep hlo h, h _ _ hb h3⟩
theorem IsF.below {lo : Nat} {W W1 : World} (hb : Below W.heap.size W W1) {p : Option Addr} {t : Tr Int} (h : IsF lo W p t) : IsF lo W1 p t :=
  h.keep (Nat.le_refl _) (fun k o _ hk => (hb.block k (Array.getElem?_eq_some_iff.1 hk).1).trans hk)
theorem IsF.set {lo b i : Nat} {v : Value} {W : World} (hb : b < lo) {p : Option Addr} {t : Tr Int} (h : IsF lo W p t) : IsF lo (W.setCell ⟨b, i, none⟩ v) p t :=
  h.keep (Nat.le_refl _) (fun k o hk ho => (Below.heap_setCell W ⟨b, i, none⟩ v k (by show k ≠ b; omega)).trans ho)
/-- A leaf's elements while they are written. -/
def mIt (f : Int → Int) (xs : List Int) (k : Nat) : List Value := (xs.take k).map (fun x => Value.int .i64 (f x)) ++ List.replicate (16 - k) (Value.int .i64 0)
theorem mIt_set (f : Int → Int) (xs : List Int) (k : Nat) (h : k < xs.length) (h16 : xs.length ≤ 16) : (mIt f xs k).set k (.int .i64 (f xs[k])) = mIt f xs (k + 1) := by
  unfold mIt
  have hl : ((xs.take k).map (fun x => Value.int .i64 (f x))).length = k := by rw [List.length_map, List.length_take]; omega
  rw [List.set_append_right _ _ (by omega), hl, Nat.sub_self, List.take_succ_eq_append_getElem h, List.map_append, List.append_assoc]
  congr 1
  obtain ⟨m, hm⟩ : ∃ m, 16 - k = m + 1 := ⟨15 - k, by omega⟩
  rw [hm, show 16 - (k + 1) = m by omega, List.replicate_succ]
  rfl
theorem mIt_0 (f : Int → Int) (xs : List Int) : mIt f xs 0 = List.replicate 16 (Value.int .i64 0) := by simp [mIt]
theorem zs_int (n : Nat) : K_int.zs n = List.replicate n (Value.int .i64 0) := by
  unfold El.zs
  induction n with
  | zero => rfl
  | succ n ih => simp only [List.replicate_succ, List.flatten_cons, ih]; rfl
theorem mIt_all (f : Int → Int) (xs : List Int) : mIt f xs xs.length = (xs.map f).flatMap K_int.enc ++ K_int.zs (16 - (xs.map f).length) := by
  unfold mIt
  rw [List.take_length, List.length_map, zs_int]
  congr 1
  induction xs with
  | nil => rfl
  | cons x r ih => simp only [List.map_cons, List.flatMap_cons, ih]; rfl
theorem items_put {W : World} {b k : Nat} {s h : Int} {l r : Option Addr} {items : List Value} (v : Value) (hk : W.heap[b]? = some (K_int.cells s h l r items)) : (W.setCell ⟨b, 4 + k, none⟩ v).heap[b]? = some (K_int.cells s h l r (items.set k v)) := by
  have e := blk_set hk (4 + k) v
  have e2 : (Value.int .i64 s :: .int .i64 h :: .pointer l :: .pointer r :: items).toArray.setIfInBounds (4 + k) v = (Value.int .i64 s :: .int .i64 h :: .pointer l :: .pointer r :: items.set k v).toArray := by
    rw [show 4 + k = k + 4 by omega]
    simp only [List.setIfInBounds_toArray, List.set_cons_succ]
  rw [e2] at e
  exact e
theorem add1.calls (a from_ : Int) (ob : Nat) (w : World) (h : w.cell? ⟨ob, 3, none⟩ = some (.int .i64 from_)) :
    Calls Try.prog 59 #[.int .i64 a, .pointer (some ⟨ob, 0, none⟩)] w fun e w' => e = .returned (.int .i64 (wrap64 (a + from_))) ∧ w' = w := by
  go_enter Try.func59, Try.ntmps59
  go_wp2
  go_ret
  exact ⟨rfl, rfl⟩

theorem below_setf {w X : World} {b i : Nat} {v : Value} (h : Below w.heap.size w X) (hb : w.heap.size ≤ b) : Below w.heap.size w (X.setCell ⟨b, i, none⟩ v) := h.setCell (p := ⟨b, i, none⟩) hb v
def Maps (from_ : Int) (ob : Nat) (t : Tr Int) : Prop := ∀ (p : Option Addr) (w : World), IsN K_int w p t → w.cell? ⟨ob, 3, none⟩ = some (.int .i64 from_) →
    Calls Try.prog 73 #[.pointer p, .func (.func 59) #[] #[.pointer (some ⟨ob, 0, none⟩)]] w fun e w' => ∃ g, e = .returned (.pointer g) ∧ IsF w.heap.size w' g (t.map (fun x => wrap64 (x + from_))) ∧ Below w.heap.size w w'
set_option maxRecDepth 100000 in
set_option maxHeartbeats 4000000 in
theorem mapleaf (from_ : Int) (ob : Nat) (xs : List Int) : Maps from_ ob (.leaf xs) := by
  intro p w hN hob
  obtain ⟨b, rfl, h1, h2, h3⟩ := hN
  have a0 : w.cell? ⟨b, 0, none⟩ = some (.int .i64 (xs.length : Int)) := (blk_cell h3 0).trans rfl
  have a1 : w.cell? ⟨b, 1, none⟩ = some (.int .i64 1) := (blk_cell h3 1).trans rfl
  have H3 := Aside0.mk h3
  have HOB := Aside0.mk hob
  clear h3 hob
  go_enter Try.func73, Try.ntmps73
  go_wp2
  go_still_tail 9, (by kernel_rfl)
  change wpList _ _ _ _ _ w.drew
  generalize hw2 : w.drew = w2
  have hB2 : Below w.heap.size w w2 := by rw [← hw2]; exact below_drew (Below.refl _ _)
  clear hw2
  obtain ⟨n, hn⟩ : ∃ n, n = xs.length := ⟨_, rfl⟩
  have hk0 := heap_new w2 (.cells #[.int .i64 (xs.length : Int), .int .i64 1, .pointer none, .pointer none, .int .i64 0, .int .i64 0, .int .i64 0, .int .i64 0, .int .i64 0, .int .i64 0, .int .i64 0, .int .i64 0, .int .i64 0, .int .i64 0, .int .i64 0, .int .i64 0, .int .i64 0, .int .i64 0, .int .i64 0, .int .i64 0] 86)
  have hb3 : Below w2.heap.size w2 (w2.alloc (.cells #[.int .i64 (xs.length : Int), .int .i64 1, .pointer none, .pointer none, .int .i64 0, .int .i64 0, .int .i64 0, .int .i64 0, .int .i64 0, .int .i64 0, .int .i64 0, .int .i64 0, .int .i64 0, .int .i64 0, .int .i64 0, .int .i64 0, .int .i64 0, .int .i64 0, .int .i64 0, .int .i64 0] 86)) := (Below.refl _ _).alloc (Nat.le_refl _) _
  have e0 : (w2.alloc (.cells #[.int .i64 (xs.length : Int), .int .i64 1, .pointer none, .pointer none, .int .i64 0, .int .i64 0, .int .i64 0, .int .i64 0, .int .i64 0, .int .i64 0, .int .i64 0, .int .i64 0, .int .i64 0, .int .i64 0, .int .i64 0, .int .i64 0, .int .i64 0, .int .i64 0, .int .i64 0, .int .i64 0] 86)).cell? ⟨b, 0, none⟩ = some (.int .i64 (xs.length : Int)) := pw_cell_below (below_step hB2 hb3) a0
  have e1 : (w2.alloc (.cells #[.int .i64 (xs.length : Int), .int .i64 1, .pointer none, .pointer none, .int .i64 0, .int .i64 0, .int .i64 0, .int .i64 0, .int .i64 0, .int .i64 0, .int .i64 0, .int .i64 0, .int .i64 0, .int .i64 0, .int .i64 0, .int .i64 0, .int .i64 0, .int .i64 0, .int .i64 0, .int .i64 0] 86)).cell? ⟨b, 1, none⟩ = some (.int .i64 1) := pw_cell_below (below_step hB2 hb3) a1
  have HK0 := Aside0.mk hk0
  have HB3 := Aside0.mk hb3
  have HB2 := Aside0.mk hB2
  clear hk0 hb3 hB2 hn
  go_wp2_with fail
  clear e0 e1
  obtain ⟨W3, hW3⟩ : ∃ W, w2.alloc (.cells #[.int .i64 (xs.length : Int), .int .i64 1, .pointer none, .pointer none, .int .i64 0, .int .i64 0, .int .i64 0, .int .i64 0, .int .i64 0, .int .i64 0, .int .i64 0, .int .i64 0, .int .i64 0, .int .i64 0, .int .i64 0, .int .i64 0, .int .i64 0, .int .i64 0, .int .i64 0, .int .i64 0] 86) = W := ⟨_, rfl⟩
  rw [hW3] at HK0 HB3 ⊢
  have HSZ : Aside0 (w2.heap.size < W3.heap.size) := ⟨by rw [← hW3]; simp⟩
  clear hW3
  have hbw := below_step HB2.out HB3.out
  have HBW := Aside0.mk hbw
  clear hbw
  go_loopw [28] (fun v wr => ∃ k : Nat, v = .int .i64 k ∧ k ≤ xs.length ∧ Aside0 (wr.heap[w2.heap.size]? = some (K_int.cells xs.length 1 none none (mIt (fun x => wrap64 (x + from_)) xs k))) ∧ Aside0 (Below w2.heap.size w2 wr)) (fun v wr => xs.length - (intOf v).toNat)
  case atStart => exact ⟨0, rfl, Nat.zero_le _, ⟨by rw [mIt_0]; exact HK0.out⟩, HB3⟩
  case round =>
    obtain ⟨k, rfl, hk, HO, HBr⟩ := hrel
    have hbr := below_step HB2.out HBr.out
    by_cases hlt : k < xs.length
    · have hlb : decide ((k : Int) < (xs.length : Int)) = true := by simp; omega
      have hit : wr.cell? ⟨b, 4 + k, none⟩ = some (.int .i64 xs[k]) := by
        obtain ⟨_, he, hc⟩ := IsN.item_int (show IsN K_int w (some ⟨b, 0, none⟩) (.leaf xs) from ⟨b, rfl, h1, h2, H3.out⟩) k hlt
        cases he
        exact pw_cell_below hbr hc
      have hobr : wr.cell? ⟨ob, 3, none⟩ = some (.int .i64 from_) := pw_cell_below hbr HOB.out
      have hq16 : (k : Int) < 16 := by omega
      have hq0 : (0 : Int) ≤ (k : Int) := Int.natCast_nonneg _
      have hset := mIt_set (fun x => wrap64 (x + from_)) xs k hlt h2
      obtain ⟨x, hx⟩ : ∃ x, xs[k] = x := ⟨_, rfl⟩
      rw [hx] at hit hset
      have HSET := Aside0.mk hset
      have HOBR := Aside0.mk hobr
      clear hset hx hobr
      have hbl : b < w2.heap.size := Nat.lt_of_lt_of_le (World.block_lt_of_cell? w _ a0) HB2.out.size
      have hol : ob < w2.heap.size := Nat.lt_of_lt_of_le (World.block_lt_of_cell? w _ HOB.out) HB2.out.size
      have hbne : ¬ b = w2.heap.size := by omega
      have hone : ¬ ob = w2.heap.size := by omega
      have hbne' : ¬ w2.heap.size = b := by omega
      have hone' : ¬ w2.heap.size = ob := by omega
      obtain ⟨v0, co⟩ : ∃ v0, wr.cell? ⟨w2.heap.size, 4 + k, none⟩ = some v0 := by
        have hlm : (mIt (fun x => wrap64 (x + from_)) xs k).length = 16 := by unfold mIt; rw [List.length_append, List.length_map, List.length_take, List.length_replicate]; omega
        refine ⟨(mIt (fun x => wrap64 (x + from_)) xs k)[k]'(by omega), (blk_cell HO.out (4 + k)).trans ?_⟩
        rw [show 4 + k = k + 4 by omega]
        simp only [List.getElem?_toArray, List.getElem?_cons_succ]
        exact List.getElem?_eq_getElem (by omega)
      have fo : wr.frozen? ⟨w2.heap.size, 4 + k, none⟩ = false := blk_frozen HO.out (4 + k)
      have hob3 := HOBR.out
      go_wp2_with fail
      go_region_held3 (fun W' => W'.cell? ⟨b, 4 + k, none⟩ = some (.int .i64 x) ∧ W'.cell? ⟨ob, 3, none⟩ = some (.int .i64 from_)) (go_keep)
        (first | (go_at_call 59; go_split_ands; refine (add1.calls x from_ ob _ (by assumption)).mono ?_; rintro e W1 ⟨rfl, rfl⟩))
      go_wp2_with fail
      go_roundw
      case rel =>
        refine ⟨k + 1, by go_num, by omega, ⟨?_⟩, ⟨?_⟩⟩
        · rw [← HSET.out]; exact items_put _ HO.out
        · exact below_drew (HBr.out.setCell (p := ⟨w2.heap.size, 4 + k, none⟩) (Nat.le_refl _) _)
      case measure => simp [intOf]; omega
    · obtain rfl : k = xs.length := by omega
      have hlb : decide ((xs.length : Int) < (xs.length : Int)) = false := by simp
      have hlb2 : decide (xs.length < xs.length) = false := by simp
      have hl0 : w.heap.size ≤ w2.heap.size := HB2.out.size
      have HBF := Aside0.mk hbr
      clear hbr
      go_wp2_with fail
      go_ret
      exact ⟨_, rfl, ⟨_, rfl, hl0, by rw [List.length_map]; exact h1, by rw [List.length_map]; exact h2, by rw [HO.out, mIt_all]; simp only [List.length_map]⟩, HBF.out⟩

set_option maxRecDepth 100000 in
set_option maxHeartbeats 4000000 in
theorem mapfork (from_ : Int) (ob : Nat) (a c : Tr Int) (iha : Maps from_ ob a) (ihc : Maps from_ ob c) : Maps from_ ob (.fork a c) := by
  intro p w hN hob
  obtain ⟨b, pa, pc, rfl, ha, hc, h3⟩ := hN
  have a0 : w.cell? ⟨b, 0, none⟩ = some (.int .i64 ((a.len + c.len : Nat) : Int)) := (blk_cell h3 0).trans rfl
  have a1 : w.cell? ⟨b, 1, none⟩ = some (.int .i64 ((max a.ht c.ht + 1 : Nat) : Int)) := (blk_cell h3 1).trans rfl
  have a2 : w.cell? ⟨b, 2, none⟩ = some (.pointer pa) := (blk_cell h3 2).trans rfl
  have a3 : w.cell? ⟨b, 3, none⟩ = some (.pointer pc) := (blk_cell h3 3).trans rfl
  obtain ⟨s, hs⟩ : ∃ s : Nat, s = a.len + c.len := ⟨_, rfl⟩
  obtain ⟨h, hh⟩ : ∃ h : Nat, h = max a.ht c.ht + 1 := ⟨_, rfl⟩
  have hh2 : 2 ≤ h := by have := a.ht_pos; omega
  rw [← hs] at a0
  rw [← hh] at a1
  have A2 := Aside0.mk a2
  have A3 := Aside0.mk a3
  have HA := Aside0.mk ha
  have HC := Aside0.mk hc
  have HOB := Aside0.mk hob
  have HS := Aside0.mk hs
  have HH := Aside0.mk hh
  have IA := Aside0.mk iha
  have IC := Aside0.mk ihc
  clear h3 hob a2 a3 ha hc hs hh iha ihc
  go_enter Try.func73, Try.ntmps73
  go_wp2
  go_still_tail 9, (by kernel_rfl)
  change wpList _ _ _ _ _ w.drew
  generalize hw2 : w.drew = w2
  have hB2 : Below w.heap.size w w2 := by rw [← hw2]; exact below_drew (Below.refl _ _)
  clear hw2
  have hk0 := heap_new w2 (.cells #[.int .i64 (s : Int), .int .i64 (h : Int), .pointer none, .pointer none, .int .i64 0, .int .i64 0, .int .i64 0, .int .i64 0, .int .i64 0, .int .i64 0, .int .i64 0, .int .i64 0, .int .i64 0, .int .i64 0, .int .i64 0, .int .i64 0, .int .i64 0, .int .i64 0, .int .i64 0, .int .i64 0] 86)
  have hb3 : Below w2.heap.size w2 (w2.alloc (.cells #[.int .i64 (s : Int), .int .i64 (h : Int), .pointer none, .pointer none, .int .i64 0, .int .i64 0, .int .i64 0, .int .i64 0, .int .i64 0, .int .i64 0, .int .i64 0, .int .i64 0, .int .i64 0, .int .i64 0, .int .i64 0, .int .i64 0, .int .i64 0, .int .i64 0, .int .i64 0, .int .i64 0] 86)) := (Below.refl _ _).alloc (Nat.le_refl _) _
  have e1 : (w2.alloc (.cells #[.int .i64 (s : Int), .int .i64 (h : Int), .pointer none, .pointer none, .int .i64 0, .int .i64 0, .int .i64 0, .int .i64 0, .int .i64 0, .int .i64 0, .int .i64 0, .int .i64 0, .int .i64 0, .int .i64 0, .int .i64 0, .int .i64 0, .int .i64 0, .int .i64 0, .int .i64 0, .int .i64 0] 86)).cell? ⟨b, 1, none⟩ = some (.int .i64 (h : Int)) := pw_cell_below (below_step hB2 hb3) a1
  have e2 : (w2.alloc (.cells #[.int .i64 (s : Int), .int .i64 (h : Int), .pointer none, .pointer none, .int .i64 0, .int .i64 0, .int .i64 0, .int .i64 0, .int .i64 0, .int .i64 0, .int .i64 0, .int .i64 0, .int .i64 0, .int .i64 0, .int .i64 0, .int .i64 0, .int .i64 0, .int .i64 0, .int .i64 0, .int .i64 0] 86)).cell? ⟨b, 2, none⟩ = some (.pointer pa) := pw_cell_below (below_step hB2 hb3) A2.out
  have e5 : ((h : Int) == 1) = false := by simp; omega
  have e5' : (h == 1) = false := by simp; omega
  have hbw := below_step hB2 hb3
  have HK0 := Aside0.mk hk0
  have HB2 := Aside0.mk hB2
  have HBW := Aside0.mk hbw
  clear hk0 hb3 hB2 hbw
  go_wp2_with fail
  obtain ⟨W3, hW3⟩ : ∃ W, w2.alloc (.cells #[.int .i64 (s : Int), .int .i64 (h : Int), .pointer none, .pointer none, .int .i64 0, .int .i64 0, .int .i64 0, .int .i64 0, .int .i64 0, .int .i64 0, .int .i64 0, .int .i64 0, .int .i64 0, .int .i64 0, .int .i64 0, .int .i64 0, .int .i64 0, .int .i64 0, .int .i64 0, .int .i64 0] 86) = W := ⟨_, rfl⟩
  rw [hW3] at HK0 HBW ⊢
  clear hW3 e1 e2
  refine (IA.out pa W3 (HA.out.below HBW.out) (pw_cell_below HBW.out HOB.out)).mono ?_
  rintro e W4 ⟨ga, rfl, hFa, hb4⟩
  have hk4 := blk_below HK0.out hb4
  have hlo : w2.heap.size < W3.heap.size := (Array.getElem?_eq_some_iff.1 HK0.out).1
  have HK4 := Aside0.mk hk4
  have HB4 := Aside0.mk (below_step HBW.out hb4)
  have FA := Aside0.mk hFa
  have y2 : W4.cell? ⟨w2.heap.size, 2, none⟩ = some (.pointer none) := (blk_cell hk4 2).trans rfl
  have f2 : W4.frozen? ⟨w2.heap.size, 2, none⟩ = false := blk_frozen hk4 2
  have y3 : (W4.setCell ⟨w2.heap.size, 2, none⟩ (.pointer ga)).cell? ⟨b, 3, none⟩ = some (.pointer pc) := by
    have hlt : b < w2.heap.size := Nat.lt_of_lt_of_le (World.block_lt_of_cell? w _ a0) HB2.out.size
    exact pw_cell_below (below_setf HB4.out HB2.out.size) A3.out
  have hb5 : Below w.heap.size w (W4.setCell ⟨w2.heap.size, 2, none⟩ (.pointer ga)) := below_setf HB4.out HB2.out.size
  have HB5 := Aside0.mk hb5
  clear hk4 hFa hb4 hb5
  go_wp2_with fail
  refine (IC.out pc _ (HC.out.below HB5.out) (pw_cell_below HB5.out HOB.out)).mono ?_
  rintro e W6 ⟨gc, rfl, hFc, hb6⟩
  have hk5 := blk_set HK4.out 2 (.pointer ga)
  have hk6 := blk_below hk5 hb6
  have HK6 := Aside0.mk hk6
  have y6 : W6.cell? ⟨w2.heap.size, 3, none⟩ = some (.pointer none) := (blk_cell hk6 3).trans rfl
  have f6 : W6.frozen? ⟨w2.heap.size, 3, none⟩ = false := blk_frozen hk6 3
  have FA6 := Aside0.mk (IsF.below hb6 (IsF.set (i := 2) (v := .pointer ga) hlo FA.out))
  have FC6 := Aside0.mk hFc
  have HB6 := Aside0.mk (below_step HB5.out hb6)
  have HSZ : Aside0 (w2.heap.size < (W4.setCell ⟨w2.heap.size, 2, none⟩ (.pointer ga)).heap.size) := ⟨blk_lt hk5⟩
  clear hk5 hk6 hb6 hFc y2 f2 y3
  go_wp2_with fail
  go_ret
  refine ⟨_, rfl, ⟨w2.heap.size, ga, gc, rfl, HB2.out.size, ?_, ?_, ?_⟩, below_setf HB6.out HB2.out.size⟩
  · exact (IsF.set hlo FA6.out).keep (by have := HB2.out.size; omega) (fun k o _ ho => ho)
  · exact (IsF.set HSZ.out FC6.out).keep (by have := HB2.out.size; have := HSZ.out; omega) (fun k o _ ho => ho)
  · have := blk_set HK6.out 3 (.pointer gc)
    rw [Tr.map_len, Tr.map_len, Tr.map_ht, Tr.map_ht, ← HS.out, ← HH.out]
    exact this
theorem maps (from_ : Int) (ob : Nat) : ∀ t : Tr Int, Maps from_ ob t
  | .leaf xs => mapleaf from_ ob xs
  | .fork a c => mapfork from_ ob a c (maps from_ ob a) (maps from_ ob c)
set_option maxRecDepth 100000 in
set_option maxHeartbeats 4000000 in
theorem Map.calls (from_ : Int) (ob : Nat) (p : Option Addr) (t : Option (Tr Int)) (w : World) (h : IsO K_int w p t) (hob : w.cell? ⟨ob, 3, none⟩ = some (.int .i64 from_)) :
    Calls Try.prog 58 #[.agg #[.pointer p], .func (.func 59) #[] #[.pointer (some ⟨ob, 0, none⟩)]] w fun e w' => ∃ g, e = .returned (.agg #[.pointer g]) ∧ IsO K_int w' g (mapO (fun x => wrap64 (x + from_)) t) ∧ Below w.heap.size w w' := by
  have H := Aside0.mk h
  have HOB := Aside0.mk hob
  clear h hob
  obtain ⟨n0, n1, n2⟩ := alloc2 w (.cells #[.pointer p] 26) (.cells #[.pointer none] 26)
  have N1 := Aside0.mk n1
  have N2 := Aside0.mk n2
  clear n0 n1 n2
  go_enter Try.func58, Try.ntmps58
  go_wp2_with fail
  have hmap : Calls Try.prog 73 #[.pointer p, .func (.func 59) #[] #[.pointer (some ⟨ob, 0, none⟩)]] ((w.alloc (.cells #[.pointer p] 26)).alloc (.cells #[.pointer none] 26)) fun e w' => ∃ g, e = .returned (.pointer g) ∧ IsO K_int w' g (mapO (fun x => wrap64 (x + from_)) t) ∧ Below ((w.alloc (.cells #[.pointer p] 26)).alloc (.cells #[.pointer none] 26)).heap.size ((w.alloc (.cells #[.pointer p] 26)).alloc (.cells #[.pointer none] 26)) w' := by
    have hO := H.out.below N2.out
    have hb := pw_cell_below N2.out HOB.out
    generalize ((w.alloc (.cells #[.pointer p] 26)).alloc (.cells #[.pointer none] 26)) = W at hO hb
    clear H HOB N1 N2
    cases t with
    | none =>
      obtain rfl : p = none := hO
      clear hb
      go_enter Try.func73, Try.ntmps73
      go_wp2
      go_ret
      exact ⟨none, rfl, rfl, Below.refl _ _⟩
    | some t =>
      refine (maps from_ ob t p W hO hb).mono ?_
      rintro e w' ⟨g, rfl, hF, hb'⟩
      exact ⟨g, rfl, hF.isN, hb'⟩
  refine hmap.mono ?_
  clear hmap
  rintro e w1 ⟨g, rfl, hO, hb⟩
  have hn1 := blk_below N1.out hb
  have HN1 := Aside0.mk hn1
  have HO := Aside0.mk hO
  have HB := Aside0.mk (below_step N2.out hb)
  have hc1 : w1.cell? ⟨w.heap.size + 1, 0, none⟩ = some (.pointer none) := (blk_cell hn1 0).trans rfl
  have hf1 := blk_frozen hn1 0
  clear hn1 hO hb
  go_wp2_with fail
  have c1 := (blk_cell (set_heap (u := .pointer g) HN1.out) 0).trans rfl
  exact bodyPost_ret (v := .agg #[.pointer g]) (by simp [results, Try.results58, go_sem, c1]) rfl ⟨g, rfl, IsO.set _ HN1.out (by decide) HO.out, HB.out.setCell (p := ⟨w.heap.size + 1, 0, none⟩) (by show _ ≤ w.heap.size + 1; omega) _⟩

end Go.Proofs.Ytlopceimlipemaa.Rope

/- One operation on ropes. -/
namespace Go.Proofs.Ytlopceimlipemaa.Rope
open Go.RowKit Go.Proofs.YtlopceimlipemaaW.PrintWords Go.Proofs.YtlopceimlipemaaW.PrintLast Go.Proofs.YtlopceimlipemaaW.PrintMore Go.Shelf
set_option linter.unusedVariables false
set_option linter.unusedSimpArgs false

theorem below_alloc {w X : World} (h : Below w.heap.size w X) (o : Obj) : Below w.heap.size w (X.alloc o) := h.alloc h.size o
theorem below_set {w X : World} {b i : Nat} {v : Value} (h : Below w.heap.size w X) (hb : w.heap.size ≤ b) : Below w.heap.size w (X.setCell ⟨b, i, none⟩ v) := h.setCell (p := ⟨b, i, none⟩) hb v
theorem below_drw {n : Nat} {w X : World} (h : Below n w X) : Below n w X.drew := below_drew h
theorem wrap_small (a : Int) (h0 : 0 ≤ a) (h1 : a < 100000) : IntKind.i64.wrap a = a := IntWalk.i64_in _ (by omega)
def stepT (k : Int) (t s : Option (Tr Int)) (f c : Int) : Option (Tr Int) :=
  if k = 0 then joinO t s else if k = 1 then joinO (splitO t f).2 (splitO t f).1 else if k = 2 then partO t f c else if k = 3 then replO t f c s else if k = 4 then buildT (listO t) else mapO (fun x => wrap64 (x + f)) t
set_option maxRecDepth 100000 in
set_option maxHeartbeats 4000000 in
theorem step.calls (ad : Addr) (m c : Nat) (kind rope other f t : Int) (i j : Nat) (p q : Option Addr) (T S : Option (Tr Int)) (w : World) (hm : 1 ≤ m) (hmc : m ≤ c) (hm2 : m ≤ 1000)
    (hk0 : 0 ≤ kind) (hk1 : kind < 256) (hr0 : 0 ≤ rope) (hr1 : rope < 256) (ho0 : 0 ≤ other) (ho1 : other < 256) (hi : rope % (m : Int) = i) (hj : other % (m : Int) = j)
    (hp : w.cell? (ad.add i) = some (.pointer p)) (hq : w.cell? (ad.add j) = some (.pointer q)) (hT : IsO K_int w p T) (hS : IsO K_int w q S) (h1 : lenO T ≤ 2000) (h2 : lenO S ≤ 2000) :
    Calls Try.prog 32 #[.slice (some ad) m c, .agg #[.int .u8 kind, .int .u8 rope, .int .u8 other, .int .i64 f, .int .i64 t]] w fun e w' => ∃ g, e = .returned (.agg #[.pointer g]) ∧ IsO K_int w' g (stepT (kind % 6) T S f t) ∧ Below w.heap.size w w' := by
  obtain ⟨k0, k1, hbl⟩ := alloc2 w (.cells #[.int .u8 kind, .int .u8 rope, .int .u8 other, .int .i64 f, .int .i64 t] 58) (.cells #[.pointer none] 26)
  obtain ⟨W0, hW0⟩ : ∃ W, (w.alloc (.cells #[.int .u8 kind, .int .u8 rope, .int .u8 other, .int .i64 f, .int .i64 t] 58)).alloc (.cells #[.pointer none] 26) = W := ⟨_, rfl⟩
  have HW0 := Aside0.mk hW0
  rw [hW0] at k0 k1 hbl
  have him : i < m := by have := Int.emod_lt_of_pos rope (show (0 : Int) < m by omega); omega
  have hjm : j < m := by have := Int.emod_lt_of_pos other (show (0 : Int) < m by omega); omega
  have x1 : W0.cell? ⟨w.heap.size, 1, none⟩ = some (.int .u8 rope) := (blk_cell k0 1).trans rfl
  have x2 : W0.cell? ⟨w.heap.size, 2, none⟩ = some (.int .u8 other) := (blk_cell k0 2).trans rfl
  have y1 : W0.cell? (ad.add i) = some (.pointer p) := pw_cell_below hbl hp
  have y2 : W0.cell? (ad.add j) = some (.pointer q) := pw_cell_below hbl hq
  have K0 := Aside0.mk k0
  have K1 := Aside0.mk k1
  have HB := Aside0.mk hbl
  have T0 := Aside0.mk (hT.below hbl)
  have S0 := Aside0.mk (hS.below hbl)
  have HI := Aside0.mk hi
  have HJ := Aside0.mk hj
  have H1 := Aside0.mk h1
  have H2 := Aside0.mk h2
  have hi0 : (0 : Int) ≤ (i : Int) := Int.natCast_nonneg _
  have hin : (i : Int) < (m : Int) := by omega
  have hj0 : (0 : Int) ≤ (j : Int) := Int.natCast_nonneg _
  have hjn : (j : Int) < (m : Int) := by omega
  have hi5 : (i : Int) < 100000 := by omega
  have hj5 : (j : Int) < 100000 := by omega
  have hm0 : (0 : Int) < (m : Int) := by omega
  have hm00 : ¬ (m : Int) = 0 := by omega
  have t1 : Int.tmod rope (m : Int) = (i : Int) := by rw [Int.tmod_eq_emod_of_nonneg hr0]; exact hi
  have t2 : Int.tmod other (m : Int) = (j : Int) := by rw [Int.tmod_eq_emod_of_nonneg ho0]; exact hj
  clear k0 k1 hbl hW0 hT hS hp hq h1 h2
  go_enter Try.func32, Try.ntmps32
  go_upto_region 1 with fail
  rw [HW0.out]
  clear HW0
  have hmn : ¬ m = 0 := by omega
  have hmb : ((m : Int) == 0) = false := by simp; omega
  have t3 := HI.out
  have u1 : IntKind.i64.wrap (i : Int) = (i : Int) := wrap_small _ hi0 hi5
  have u2 : IntKind.i64.wrap (j : Int) = (j : Int) := wrap_small _ hj0 hj5
  have u3 : IntKind.i64.wrap (rope % (m : Int)) = (i : Int) := by rw [t3]; exact u1
  have u4 : IntKind.i64.wrap (other % (m : Int)) = (j : Int) := by rw [HJ.out]; exact u2
  have u5 : IntKind.i64.wrap (Int.tmod rope (m : Int)) = (i : Int) := by rw [t1]; exact u1
  have u6 : IntKind.i64.wrap (Int.tmod other (m : Int)) = (j : Int) := by rw [t2]; exact u2
  have u7 : IntKind.i64.wrap rope = rope := wrap_small _ hr0 (Int.lt_trans hr1 (by decide))
  have u8 : IntKind.i64.wrap other = other := wrap_small _ ho0 (Int.lt_trans ho1 (by decide))
  have t4 := HJ.out
  go_cut [5, 6] from 9 to 26 (fun v5 v6 wr => Aside0 (∃ b5 b6 : Nat, v5 = .pointer (some ⟨b5, 0, none⟩) ∧ v6 = .pointer (some ⟨b6, 0, none⟩) ∧ W0.heap.size ≤ b5 ∧ W0.heap.size ≤ b6 ∧ wr.heap[b5]? = some (.cells #[.pointer p] 26 (0, 0)) ∧ wr.heap[b6]? = some (.cells #[.pointer q] 26 (0, 0)) ∧ Below W0.heap.size W0 wr))
  case first =>
    go_region_held3 (fun W' => Below W0.heap.size W0 W' ∧ W'.cell? ⟨w.heap.size, 1, none⟩ = some (.int .u8 rope) ∧ W'.cell? ⟨w.heap.size, 2, none⟩ = some (.int .u8 other) ∧ W'.cell? (ad.add i) = some (.pointer p) ∧ W'.cell? (ad.add j) = some (.pointer q))
      ((go_split_ands; (refine (fun (h : Below W0.heap.size W0 _) => ⟨h, pw_cell_below h x1, pw_cell_below h x2, pw_cell_below h y1, pw_cell_below h y2⟩) ?_); repeat (first | assumption | exact Below.refl _ _ | with_reducible refine below_alloc ?_ _ | with_reducible refine below_drw ?_ | with_reducible refine below_set ?_ (by first | exact Nat.le_refl _ | exact Nat.le_succ _ | omega))))
      (fail)
    all_goals
      go_wp2
      go_meet
      case rel => exact ⟨⟨_, _, rfl, rfl, by simp, by simp, by first | exact (alloc2 _ _ _).1 | exact (alloc2 _ _ _).2.1 | exact (alloc2 W0 _ _).1 | exact (alloc2 W0 _ _).2.1, by first | exact (alloc2 _ _ _).1 | exact (alloc2 _ _ _).2.1 | exact (alloc2 W0 _ _).1 | exact (alloc2 W0 _ _).2.1, by repeat (first | exact Below.refl _ _ | with_reducible refine below_alloc ?_ _ | with_reducible refine below_drw ?_)⟩⟩
  case rest =>
    obtain ⟨b5, b6, rfl, rfl, hb5, hb6, hk5, hk6, hbc⟩ := hcut.out
    have hz0 : w.heap.size + 2 ≤ W0.heap.size := by have := (Array.getElem?_eq_some_iff.1 K1.out).1; omega
    have KC := Aside0.mk ((hbc.block _ (by omega)).trans K1.out)
    have z0 : wc.cell? ⟨w.heap.size, 0, none⟩ = some (.int .u8 kind) := (hbc.cell (by show w.heap.size < _; omega)).trans ((blk_cell K0.out 0).trans rfl)
    have z3 : wc.cell? ⟨w.heap.size, 3, none⟩ = some (.int .i64 f) := (hbc.cell (by show w.heap.size < _; omega)).trans ((blk_cell K0.out 3).trans rfl)
    have z4 : wc.cell? ⟨w.heap.size, 4, none⟩ = some (.int .i64 t) := (hbc.cell (by show w.heap.size < _; omega)).trans ((blk_cell K0.out 4).trans rfl)
    have z5 : wc.cell? ⟨b5, 0, none⟩ = some (.pointer p) := (blk_cell hk5 0).trans rfl
    have z6 : wc.cell? ⟨b6, 0, none⟩ = some (.pointer q) := (blk_cell hk6 0).trans rfl
    have TC := Aside0.mk (T0.out.below hbc)
    have SC := Aside0.mk (S0.out.below hbc)
    have HBC := Aside0.mk (HB.out.trans (hbc.mono HB.out.size))
    have K5 := Aside0.mk hk5
    have HK6 := Aside0.mk hk6
    have Z3 := Aside0.mk z3
    have L1 : Aside0 (lenO T + lenO S ≤ 4611686018427387904) := ⟨by have := H1.out; have := H2.out; omega⟩
    have L2 : Aside0 (lenO T ≤ 4611686018427387904) := ⟨by have := H1.out; omega⟩
    have L3 : Aside0 (lenO T + lenO S ≤ 2305843009213693952) := ⟨by have := H1.out; have := H2.out; omega⟩
    have L4 : Aside0 (lenO T * 8 ≤ 140737488351232) := ⟨by have := H1.out; omega⟩
    have L5 : Aside0 (lenO (splitO T f).2 + lenO (splitO T f).1 ≤ 4611686018427387904) := ⟨by have := splitO_len T f; have := H1.out; omega⟩
    have fin : ∀ (g : Option Addr) (R : Option (Tr Int)) (W : World), Below wc.heap.size wc W → IsO K_int W g R → IsO K_int (W.setCell ⟨w.heap.size + 1, 0, none⟩ (.pointer g)) g R ∧ Below w.heap.size w (W.setCell ⟨w.heap.size + 1, 0, none⟩ (.pointer g)) ∧ (W.setCell ⟨w.heap.size + 1, 0, none⟩ (.pointer g)).cell? ⟨w.heap.size + 1, 0, none⟩ = some (.pointer g) := by
      intro g R W hb hO
      have hk := blk_below KC.out hb
      exact ⟨IsO.set _ hk (by decide) hO, (below_step HBC.out hb).setCell (p := ⟨w.heap.size + 1, 0, none⟩) (by show _ ≤ w.heap.size + 1; omega) _, (blk_cell (set_heap hk) 0).trans rfl⟩
    have cell1 : ∀ W, Below wc.heap.size wc W → W.cell? ⟨w.heap.size + 1, 0, none⟩ = some (.pointer none) ∧ W.frozen? ⟨w.heap.size + 1, 0, none⟩ = false := fun W hb => ⟨(blk_cell (blk_below KC.out hb) 0).trans rfl, blk_frozen (blk_below KC.out hb) 0⟩
    have FIN := Aside0.mk fin
    have CELL := Aside0.mk cell1
    obtain ⟨κ, hκ⟩ : ∃ κ, kind % 6 = κ := ⟨_, rfl⟩
    have hcs : κ = 0 ∨ κ = 1 ∨ κ = 2 ∨ κ = 3 ∨ κ = 4 ∨ κ = 5 := by omega
    clear hcut hk5 hk6 hbc fin cell1 t1 t2 t3 t4 u1 u2 u3 u4 u5 u6 u7 u8 hi5 hj5
    clear x1 x2 y1 y2
    rcases hcs with rfl | rfl | rfl | rfl | rfl | rfl
    · have HKK := Aside0.mk hκ
      have e0 : (kind % 6 == 0) = true := by simp [hκ]
      clear hκ
      go_wp2_with fail
      refine (RJoin_int.calls p q T S wc TC.out SC.out L1.out).mono ?_
      rintro e W1 ⟨g, rfl, hO, hb⟩
      have HX := Aside0.mk hb
      have HY := Aside0.mk hO
      clear hb hO
      obtain ⟨q1, q2⟩ := CELL.out _ HX.out
      clear z0 z3 z4 z5 z6
      go_wp2_with fail
      have hst : stepT (kind % 6) T S f t = joinO T S := by rw [HKK.out]; rfl
      obtain ⟨r1, r2, r3⟩ := FIN.out _ _ _ HX.out HY.out
      exact bodyPost_ret (v := .agg #[.pointer g]) (by simp [results, Try.results32, go_sem, r3]) rfl ⟨g, rfl, by rw [hst]; exact r1, r2⟩
    · have HKK := Aside0.mk hκ
      have e0 : (kind % 6 == 0) = false := by simp [hκ]
      have e1 : (kind % 6 == 1) = true := by simp [hκ]
      clear hκ
      go_wp2_with fail
      refine (RSplit_int.calls p f T wc TC.out L2.out).mono ?_
      rintro e V1 ⟨ga, gb, rfl, hOa, hOb, hb1⟩
      obtain ⟨n1, n2, hb2⟩ := alloc2 V1 (.cells #[.pointer ga] 26) (.cells #[.pointer gb] 26)
      have OA := Aside0.mk (hOa.below hb2)
      have OB := Aside0.mk (hOb.below hb2)
      have HV := Aside0.mk (below_step hb1 hb2)
      clear hOa hOb hb1 hb2 n1 n2
      go_wp2_with fail
      refine (RJoin_int.calls gb ga _ _ _ OB.out OA.out L5.out).mono ?_
      rintro e W1 ⟨g, rfl, hO, hb⟩
      have HX := Aside0.mk (below_step HV.out hb)
      have HY := Aside0.mk hO
      clear hb hO
      obtain ⟨q1, q2⟩ := CELL.out _ HX.out
      clear z0 z3 z4 z5 z6
      go_wp2_with fail
      have hst : stepT (kind % 6) T S f t = joinO (splitO T f).2 (splitO T f).1 := by rw [HKK.out]; rfl
      obtain ⟨r1, r2, r3⟩ := FIN.out _ _ _ HX.out HY.out
      exact bodyPost_ret (v := .agg #[.pointer g]) (by simp [results, Try.results32, go_sem, r3]) rfl ⟨g, rfl, by rw [hst]; exact r1, r2⟩
    · have HKK := Aside0.mk hκ
      have e0 : (kind % 6 == 0) = false := by simp [hκ]
      have e1 : (kind % 6 == 1) = false := by simp [hκ]
      have e2 : (kind % 6 == 2) = true := by simp [hκ]
      clear hκ
      go_wp2_with fail
      refine (Part_int.calls p f t T wc TC.out L2.out).mono ?_
      rintro e W1 ⟨g, rfl, hO, hb⟩
      have HX := Aside0.mk hb
      have HY := Aside0.mk hO
      clear hb hO
      obtain ⟨q1, q2⟩ := CELL.out _ HX.out
      clear z0 z3 z4 z5 z6
      go_wp2_with fail
      have hst : stepT (kind % 6) T S f t = partO T f t := by rw [HKK.out]; rfl
      obtain ⟨r1, r2, r3⟩ := FIN.out _ _ _ HX.out HY.out
      exact bodyPost_ret (v := .agg #[.pointer g]) (by simp [results, Try.results32, go_sem, r3]) rfl ⟨g, rfl, by rw [hst]; exact r1, r2⟩
    · have HKK := Aside0.mk hκ
      have e0 : (kind % 6 == 0) = false := by simp [hκ]
      have e1 : (kind % 6 == 1) = false := by simp [hκ]
      have e2 : (kind % 6 == 2) = false := by simp [hκ]
      have e3 : (kind % 6 == 3) = true := by simp [hκ]
      clear hκ
      go_wp2_with fail
      refine (Replace_int.calls p q f t T S wc TC.out SC.out L3.out).mono ?_
      rintro e W1 ⟨g, rfl, hO, hb⟩
      have HX := Aside0.mk hb
      have HY := Aside0.mk hO
      clear hb hO
      obtain ⟨q1, q2⟩ := CELL.out _ HX.out
      clear z0 z3 z4 z5 z6
      go_wp2_with fail
      have hst : stepT (kind % 6) T S f t = replO T f t S := by rw [HKK.out]; rfl
      obtain ⟨r1, r2, r3⟩ := FIN.out _ _ _ HX.out HY.out
      exact bodyPost_ret (v := .agg #[.pointer g]) (by simp [results, Try.results32, go_sem, r3]) rfl ⟨g, rfl, by rw [hst]; exact r1, r2⟩
    · have HKK := Aside0.mk hκ
      have e0 : (kind % 6 == 0) = false := by simp [hκ]
      have e1 : (kind % 6 == 1) = false := by simp [hκ]
      have e2 : (kind % 6 == 2) = false := by simp [hκ]
      have e3 : (kind % 6 == 3) = false := by simp [hκ]
      have e4 : (kind % 6 == 4) = true := by simp [hκ]
      clear hκ
      go_wp2_with fail
      refine (List_int.calls p T wc TC.out L4.out).mono ?_
      rintro e V1 ⟨v1, rfl, hr1, _, hb1⟩
      obtain ⟨A1, c1, rfl, hc1, hC1⟩ := own_C_int hr1 rfl
      have HV := Aside0.mk hb1
      have HC1 := Aside0.mk hC1
      clear hr1 hb1 hC1
      go_wp2_with fail
      refine (Of_int.calls A1 c1 _ (listO T) _ rfl HC1.out hc1 (by rw [listO_len]; exact L2.out)).mono ?_
      rintro e W1 ⟨g, rfl, hO, hb⟩
      have HX := Aside0.mk (below_step HV.out hb)
      have HY := Aside0.mk hO
      clear hb hO
      obtain ⟨q1, q2⟩ := CELL.out _ HX.out
      clear z0 z3 z4 z5 z6
      go_wp2_with fail
      have hst : stepT (kind % 6) T S f t = buildT (listO T) := by rw [HKK.out]; rfl
      obtain ⟨r1, r2, r3⟩ := FIN.out _ _ _ HX.out HY.out
      exact bodyPost_ret (v := .agg #[.pointer g]) (by simp [results, Try.results32, go_sem, r3]) rfl ⟨g, rfl, by rw [hst]; exact r1, r2⟩
    · have HKK := Aside0.mk hκ
      have e0 : (kind % 6 == 0) = false := by simp [hκ]
      have e1 : (kind % 6 == 1) = false := by simp [hκ]
      have e2 : (kind % 6 == 2) = false := by simp [hκ]
      have e3 : (kind % 6 == 3) = false := by simp [hκ]
      have e4 : (kind % 6 == 4) = false := by simp [hκ]
      clear hκ
      go_wp2_with fail
      refine (Map.calls f w.heap.size p T wc TC.out Z3.out).mono ?_
      rintro e W1 ⟨g, rfl, hO, hb⟩
      have HX := Aside0.mk hb
      have HY := Aside0.mk hO
      clear hb hO
      obtain ⟨q1, q2⟩ := CELL.out _ HX.out
      clear z0 z3 z4 z5 z6
      go_wp2_with fail
      have hst : stepT (kind % 6) T S f t = mapO (fun x => wrap64 (x + f)) T := by rw [HKK.out]; rfl
      obtain ⟨r1, r2, r3⟩ := FIN.out _ _ _ HX.out HY.out
      exact bodyPost_ret (v := .agg #[.pointer g]) (by simp [results, Try.results32, go_sem, r3]) rfl ⟨g, rfl, by rw [hst]; exact r1, r2⟩

end Go.Proofs.Ytlopceimlipemaa.Rope
