/- The parser: item, at an opening bracket. -/
import Derived.Test.YtdbjjaodkapikaaHTEPc
import Derived.Test.YtdbjjaodkapikaaHShelf
namespace Go.Proofs.Ytdbjjaodkapikaa.TE
open Go.RowKit Go.Shelf Go.Proofs.YtdbjjaodkapikaaW.PrintWords Go.Proofs.YtdbjjaodkapikaaW.PrintLast Go.Proofs.YtdbjjaodkapikaaW.PrintMore Go.Proofs.Ytdbjjaodkapikaa.Evs
set_option linter.unusedVariables false
set_option linter.unusedSimpArgs false
theorem quiet_of2 {P : Program} {f : FuncId} {args : Array Value} {w : World} {m n : Nat} {v : Value}
    (h : Calls P f args (w.drewN (m + n)) fun e w' => e = .returned v ∧ ∃ k, w' = (w.drewN (m + n)).drewN k) : Calls P f args (w.drewN (m + n)) fun e w'' => e = .returned v ∧ ∃ k, w'' = w.drewN (m + k) :=
  h.mono fun _ _ ⟨he, k, hm⟩ => ⟨he, n + k, by rw [hm, World.drewN_drewN, Nat.add_assoc]⟩
theorem is_at (c : Nat) (b : UInt8) (hb : b.toNat = c) (m : Int) (v : Bool) (hv : clsB m b = v) (w : World) : Calls Try.prog 87 #[.int .u8 (c : Int), .int .u8 m] w fun e w' => e = .returned (.bool v) ∧ ∃ n, w' = w.drewN n := by
  subst hb; subst hv; exact is_calls b m w
theorem index_at (c : Int) (v : Int) (hv : Lib.indexByte [115, 116, 101] c.toNat.toUInt8 = v) (w : World) : Calls Try.prog 91 #[.string ⟨#[115, 116, 101]⟩, .int .u8 c] w fun e w' => e = .returned (.int .i64 v) ∧ ∃ n, w' = w.drewN n := by
  subst hv; refine (Try.strings_IndexByte ⟨#[115, 116, 101]⟩ c w).mono ?_; rintro e w' ⟨rfl, rfl⟩; exact ⟨rfl, 0, rfl⟩
set_option maxRecDepth 100000 in
set_option maxHeartbeats 4000000 in
theorem item_open.calls (g base : Nat) (s : ByteArray) (a : Nat) (fault : Int) (av : Option Addr) (nv cv : Nat) (vs : Value) (n : Nat) (ys : List Value) (W : World) (h : Pz W g s a fault (.slice av nv cv) vs) (ho : W.ownsRow base 122 4 vs n ys) (hb : base ≤ g) (hn8 : n ≤ 1099511627776)
    (hs : s.size ≤ 1099511627776) (ha : a < s.size) (hc : (s[a]'ha).toNat = 40) :
    Calls Try.prog 61 #[.pointer (some ⟨g, 0, none⟩)] W fun e W' => e = .returned (.bool true) ∧ ∃ vs', Pz W' g s ((a + 1 : Nat) : Int) fault (.slice none 0 0) vs' ∧ W'.ownsRow base 122 4 vs' (n + 1) (ys ++ [.slice av nv cv, .int .i64 4, .string ⟨#[]⟩, .slice none 0 0]) ∧ (∀ b, vs'.ownBlock = some b → vs.ownBlock = some b ∨ W.heap.size ≤ b) ∧ Fr W W' (fun i => i = g ∨ some i = vs.ownBlock) := by
  have hga : some g ≠ vs.ownBlock := own_neG ho (by decide) h; have hbl : Below W.heap.size W (W.alloc (.cells #[.pointer (some ⟨g, 0, none⟩)] 69)) := (Below.refl _ _).alloc (Nat.le_refl _) _; have hn0 := World.alloc_heap_new W (.cells #[.pointer (some ⟨g, 0, none⟩)] 69); obtain ⟨W0, hW0⟩ : ∃ W0, W.alloc (.cells #[.pointer (some ⟨g, 0, none⟩)] 69) = W0 := ⟨_, rfl⟩; have HW0 := Aside0.mk hW0; rw [hW0] at hbl hn0; have x0 : W0.cell? ⟨W.heap.size, 0, none⟩ = some (.pointer (some ⟨g, 0, none⟩)) := (q10 hn0 0).trans rfl; have hp0 : Pz W0 g s a fault (.slice av nv cv) vs := h.newer hbl; obtain ⟨p0, p1, p2, p3, p4⟩ := hp0.cells; have pf1 := hp0.fz 1; have hgl : g < W.heap.size := (Array.getElem?_eq_some_iff.1 h).1; have ha0 : (0 : Int) ≤ (a : Int) := Int.natCast_nonneg _
  have ha1 : (a : Int) < (s.size : Int) := by omega
  have hbt : ((s[a]'ha).toNat : Int) = 40 := by omega
  have hw4 : IntKind.i64.wrap ((a : Int) + 1) = (a : Int) + 1 := by rw [i64_w]; rw [wrap64_id (by omega) (by omega)]
  have hidx := index_at 40 (-1) (by decide); have his1 := is_at 40 40 rfl 1 false (by decide); have his2 := is_at 40 40 rfl 2 false (by decide); have HIDX := Aside0.mk hidx; have HIS1 := Aside0.mk his1; have HIS2 := Aside0.mk his2; have HP0 := Aside0.mk hp0; have HBL := Aside0.mk hbl; have HN0 := Aside0.mk hn0; have HO := Aside0.mk ho; have HN8 := Aside0.mk hn8; clear h ho hn8 hp0 hbl hW0 hn0 hidx his1 his2 hs hc
  go_enter Try.func61, Try.ntmps61
  go_wp2_with fail
  rw [HW0.out]
  go_quiet (fail)
  go_wp2_with fail
  go_quiet (first | (go_at_call 91; exact quiet_of2 (HIDX.out _)))
  go_wp2_with (first
    | (go_at_call 87; refine (HIS1.out _).mono ?_; rintro e w' ⟨rfl, nd, rfl⟩)
    | (go_at_call 87; refine (HIS2.out _).mono ?_; rintro e w' ⟨rfl, nd, rfl⟩)
    | fail)
  refine (begin.calls g base s ((a : Int) + 1) fault av nv cv vs n ys 4 ⟨#[]⟩ none 0 0 _ (HP0.out.drewN.setAt _) (own_farG (own_drewN (own_below4 HO.out HBL.out)) g 1 _ hga) hb HN8.out).mono ?_; rintro e w5 ⟨rfl, vs', hp, ho, hn, hf⟩; have HP6 := Aside0.mk hp; have HO6 := Aside0.mk ho; have HN6 := Aside0.mk (show ∀ b, vs'.ownBlock = some b → vs.ownBlock = some b ∨ W.heap.size ≤ b from fun b hb => (hn b hb).imp id (Nat.le_trans (Nat.le_trans HBL.out.size (by simp [World.setCell])))); have HF6 := Aside0.mk (((fr_grown (fr_drewN (fr_below (Fr.refl W _) HBL.out)) (grown_set _ g 1 _)).mono (fun i _ e => .inl e)).trans hf : Fr W w5 (fun i => i = g ∨ some i = vs.ownBlock)); clear hp ho hn hf
  go_wp2_with fail
  go_ret; exact ⟨rfl, vs', by have := HP6.out; simpa using this, HO6.out, HN6.out, HF6.out⟩
end Go.Proofs.Ytdbjjaodkapikaa.TE
