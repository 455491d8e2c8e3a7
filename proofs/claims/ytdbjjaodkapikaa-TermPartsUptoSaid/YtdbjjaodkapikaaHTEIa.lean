/- Packed: item at brackets and calls. -/
import Derived.Test.YtdbjjaodkapikaaHTEItem1
import Derived.Test.YtdbjjaodkapikaaHTEParse6
namespace Go.Proofs.Ytdbjjaodkapikaa.TE
open Go.RowKit Go.Shelf Go.Proofs.YtdbjjaodkapikaaW.PrintWords Go.Proofs.YtdbjjaodkapikaaW.PrintLast Go.Proofs.YtdbjjaodkapikaaW.PrintMore Go.Proofs.Ytdbjjaodkapikaa.Evs
set_option linter.unusedVariables false
set_option linter.unusedSimpArgs false
set_option maxRecDepth 100000 in
set_option maxHeartbeats 4000000 in
theorem item_call.calls (g base : Nat) (s : ByteArray) (a a1 a2 : Nat) (kk : Nat) (tx : ByteArray) (fault : Int) (av : Option Addr) (nv cv : Nat) (vs : Value) (n : Nat) (ys : List Value) (W : World) (h : Pz W g s a fault (.slice av nv cv) vs) (ho : W.ownsRow base 122 4 vs n ys) (hb : base ≤ g) (hn8 : n ≤ 1099511627776)
    (hs : s.size ≤ 1099511627776) (ha : a < s.size) (hc : (s[a]'ha).toNat = 60) (h1 : a1 = endF 8 s (a + 1)) (hl : a1 < s.size) (hcl : clsB 1 (s[a1]'hl) = true) (h2 : a2 = endF 4 s a1) (htx : tx = s.extract a1 a2) (hr : term_right.f kk 8 tx [] = some true) (hon : onB s a2 = false) :
    Calls Try.prog 61 #[.pointer (some ⟨g, 0, none⟩)] W fun e W' => e = .returned (.bool true) ∧ ∃ vs', Pz W' g s a2 fault (.slice none 0 0) vs' ∧ W'.ownsRow base 122 4 vs' (n + 1) (ys ++ [.slice av nv cv, .int .i64 8, .string tx, .slice none 0 0]) ∧ (∀ b, vs'.ownBlock = some b → vs.ownBlock = some b ∨ W.heap.size ≤ b) ∧ Fr W W' (fun i => i = g ∨ some i = vs.ownBlock) := by
  have hga : some g ≠ vs.ownBlock := own_neG ho (by decide) h; have hbl : Below W.heap.size W (W.alloc (.cells #[.pointer (some ⟨g, 0, none⟩)] 69)) := (Below.refl _ _).alloc (Nat.le_refl _) _; have hn0 := World.alloc_heap_new W (.cells #[.pointer (some ⟨g, 0, none⟩)] 69); obtain ⟨W0, hW0⟩ : ∃ W0, W.alloc (.cells #[.pointer (some ⟨g, 0, none⟩)] 69) = W0 := ⟨_, rfl⟩; have HW0 := Aside0.mk hW0; rw [hW0] at hbl hn0; have x0 : W0.cell? ⟨W.heap.size, 0, none⟩ = some (.pointer (some ⟨g, 0, none⟩)) := (q10 hn0 0).trans rfl; have hp0 : Pz W0 g s a fault (.slice av nv cv) vs := h.newer hbl; obtain ⟨p0, p1, p2, p3, p4⟩ := hp0.cells; have pf1 := hp0.fz 1; have hgl : g < W.heap.size := (Array.getElem?_eq_some_iff.1 h).1; have ha0 : (0 : Int) ≤ (a : Int) := Int.natCast_nonneg _
  have ha1 : (a : Int) < (s.size : Int) := by omega
  have hbt : ((s[a]'ha).toNat : Int) = 60 := by omega
  have hw4 : IntKind.i64.wrap ((a : Int) + 1) = (a : Int) + 1 := by rw [i64_w]; rw [wrap64_id (by omega) (by omega)]
  have hidx := index_at 60 (-1) (by decide); have his1 := is_at 60 60 rfl 1 false (by decide); have his2 := is_at 60 60 rfl 2 false (by decide); have HIDX := Aside0.mk hidx; have HIS1 := Aside0.mk his1; have HIS2 := Aside0.mk his2; have HP0 := Aside0.mk hp0; have HBL := Aside0.mk hbl; have HN0 := Aside0.mk hn0; have HO := Aside0.mk ho; have HN8 := Aside0.mk hn8; have HS := Aside0.mk hs; have H1 := Aside0.mk h1; have H2 := Aside0.mk h2; have HTX := Aside0.mk htx; have HCL := Aside0.mk hcl; have HR := Aside0.mk hr; have HON := Aside0.mk hon; have HA := Aside0.mk ha; clear h ho hn8 hp0 hbl hW0 hn0 hidx his1 his2 hs hc h1 h2 htx hcl hr hon
  go_enter Try.func61, Try.ntmps61
  go_wp2_with fail
  rw [HW0.out]
  go_quiet (fail)
  go_wp2_with fail
  go_quiet (first | (go_at_call 91; exact quiet_of2 (HIDX.out _)))
  go_wp2_with (first
    | (go_at_call 87; refine (HIS1.out _).mono ?_; rintro e w' ⟨rfl, nd, rfl⟩)
    | (go_at_call 87; refine (HIS2.out _).mono ?_; rintro e w' ⟨rfl, nd, rfl⟩)
    | fail)
  refine (call1.calls g base s a a1 a2 fault av nv cv vs n ys kk tx _ HP0.out.drewN (own_drewN (own_below4 HO.out HBL.out)) hb HN8.out HS.out HA.out H1.out hl HCL.out H2.out HTX.out HR.out HON.out).mono ?_; rintro e w5 ⟨rfl, vs', hp, ho, hn, hf⟩; have HP6 := Aside0.mk hp; have HO6 := Aside0.mk ho; have HN6 := Aside0.mk (show ∀ b, vs'.ownBlock = some b → vs.ownBlock = some b ∨ W.heap.size ≤ b from fun b hb => (hn b hb).imp id (Nat.le_trans HBL.out.size)); have HF6 := Aside0.mk (((fr_drewN (fr_below (Fr.refl W _) HBL.out))).trans hf : Fr W w5 (fun i => i = g ∨ some i = vs.ownBlock)); clear hp ho hn hf
  go_wp2_with fail
  go_ret; exact ⟨rfl, vs', HP6.out, HO6.out, HN6.out, HF6.out⟩
end Go.Proofs.Ytdbjjaodkapikaa.TE
namespace Go.Proofs.Ytdbjjaodkapikaa.TE
open Go.RowKit Go.Shelf Go.Proofs.YtdbjjaodkapikaaW.PrintWords Go.Proofs.YtdbjjaodkapikaaW.PrintLast Go.Proofs.YtdbjjaodkapikaaW.PrintMore Go.Proofs.Ytdbjjaodkapikaa.Evs
set_option linter.unusedVariables false
set_option linter.unusedSimpArgs false
set_option maxRecDepth 100000 in
set_option maxHeartbeats 4000000 in
theorem item_shut.calls (g base : Nat) (s : ByteArray) (a : Nat) (fault : Int) (av : Option Addr) (nv cv : Nat) (bs cs n : Nat) (ys : List Value) (va : Value) (na : Nat) (xsa : List Value) (tx : ByteArray) (A : Option Addr) (m c : Nat) (W : World)
    (h : Pz W g s a fault (.slice av nv cv) (.slice (some ⟨bs, 0, none⟩) (n + 1) cs)) (ho : W.ownsRow base 122 4 (.slice (some ⟨bs, 0, none⟩) (n + 1) cs) (n + 1) (ys ++ [va, .int .i64 4, .string tx, .slice A m c])) (hys : ys.length = n * 4)
    (hav : W.ownsRow base 42 3 va na xsa) (hb : base ≤ g) (hn8 : n ≤ 1099511627776) (hna : na ≤ 1099511627776)
    (hs : s.size ≤ 1099511627776) (ha : a < s.size) (hc : (s[a]'ha).toNat = 41) :
    Calls Try.prog 61 #[.pointer (some ⟨g, 0, none⟩)] W fun e W' => e = .returned (.bool true) ∧ ∃ vl', Pz W' g s ((a + 1 : Nat) : Int) fault vl' (.slice (some ⟨bs, 0, none⟩) n cs) ∧ W'.ownsRow base 122 4 (.slice (some ⟨bs, 0, none⟩) n cs) n ys ∧
      W'.ownsRow base 42 3 vl' (na + 1) (xsa ++ [.int .i64 4, .string tx, .slice av nv cv]) ∧ (∀ b, vl'.ownBlock = some b → va.ownBlock = some b ∨ W.heap.size ≤ b) ∧ Fr W W' (fun i => i = g ∨ some i = va.ownBlock) := by
  have hbl : Below W.heap.size W (W.alloc (.cells #[.pointer (some ⟨g, 0, none⟩)] 69)) := (Below.refl _ _).alloc (Nat.le_refl _) _; have hn0 := World.alloc_heap_new W (.cells #[.pointer (some ⟨g, 0, none⟩)] 69); obtain ⟨W0, hW0⟩ : ∃ W0, W.alloc (.cells #[.pointer (some ⟨g, 0, none⟩)] 69) = W0 := ⟨_, rfl⟩; have HW0 := Aside0.mk hW0; rw [hW0] at hbl hn0; have x0 : W0.cell? ⟨W.heap.size, 0, none⟩ = some (.pointer (some ⟨g, 0, none⟩)) := (q10 hn0 0).trans rfl; have hp0 : Pz W0 g s a fault (.slice av nv cv) (.slice (some ⟨bs, 0, none⟩) (n + 1) cs) := h.newer hbl; obtain ⟨p0, p1, p2, p3, p4⟩ := hp0.cells; have pf1 := hp0.fz 1; have hgl : g < W.heap.size := (Array.getElem?_eq_some_iff.1 h).1; have ha0 : (0 : Int) ≤ (a : Int) := Int.natCast_nonneg _
  have ha1 : (a : Int) < (s.size : Int) := by omega
  have hbt : ((s[a]'ha).toNat : Int) = 41 := by omega
  have hw4 : IntKind.i64.wrap ((a : Int) + 1) = (a : Int) + 1 := by rw [i64_w]; rw [wrap64_id (by omega) (by omega)]
  have hidx := index_at 41 (-1) (by decide); have his1 := is_at 41 41 rfl 1 false (by decide); have his2 := is_at 41 41 rfl 2 false (by decide); have HIDX := Aside0.mk hidx; have HIS1 := Aside0.mk his1; have HIS2 := Aside0.mk his2; have HP0 := Aside0.mk hp0; have HBL := Aside0.mk hbl; have HN0 := Aside0.mk hn0; have HO := Aside0.mk ho; have HN8 := Aside0.mk hn8; have HS := Aside0.mk hs; have HA := Aside0.mk ha; have HAV := Aside0.mk hav; have HNA := Aside0.mk hna; have HYS := Aside0.mk hys; clear h ho hn8 hp0 hbl hW0 hn0 hidx his1 his2 hs hc hav hna hys
  go_enter Try.func61, Try.ntmps61
  go_wp2_with fail
  rw [HW0.out]
  go_quiet (fail)
  go_wp2_with fail
  go_quiet (first | (go_at_call 91; exact quiet_of2 (HIDX.out _)))
  go_wp2_with (first
    | (go_at_call 87; refine (HIS1.out _).mono ?_; rintro e w' ⟨rfl, nd, rfl⟩)
    | (go_at_call 87; refine (HIS2.out _).mono ?_; rintro e w' ⟨rfl, nd, rfl⟩)
    | fail)
  refine (end1.calls g base s (a : Int) fault av nv cv bs cs n ys va na xsa 4 tx A m c _ HP0.out.drewN (own_drewN (own_below4 HO.out HBL.out)) HYS.out (own_drewN (own_below4 HAV.out HBL.out)) hb HN8.out HNA.out (by have := HS.out; have := HA.out; omega)).mono ?_; rintro e w5 ⟨rfl, vl', hp, ho, hl, hn, hf⟩; have HP6 := Aside0.mk hp; have HO6 := Aside0.mk ho; have HL6 := Aside0.mk hl; have HN6 := Aside0.mk (show ∀ b, vl'.ownBlock = some b → va.ownBlock = some b ∨ W.heap.size ≤ b from fun b hb => (hn b hb).imp id (Nat.le_trans HBL.out.size)); have HF6 := Aside0.mk (((fr_drewN (fr_below (Fr.refl W _) HBL.out))).trans hf : Fr W w5 (fun i => i = g ∨ some i = va.ownBlock)); clear hp ho hn hf hl
  go_wp2_with fail
  go_ret; exact ⟨rfl, vl', by have := HP6.out; simpa using this, HO6.out, HL6.out, HN6.out, HF6.out⟩
end Go.Proofs.Ytdbjjaodkapikaa.TE
namespace Go.Proofs.Ytdbjjaodkapikaa.TE
open Go.RowKit Go.Shelf Go.Proofs.YtdbjjaodkapikaaW.PrintWords Go.Proofs.YtdbjjaodkapikaaW.PrintLast Go.Proofs.YtdbjjaodkapikaaW.PrintMore Go.Proofs.Ytdbjjaodkapikaa.Evs
set_option linter.unusedVariables false
set_option linter.unusedSimpArgs false
set_option maxRecDepth 100000 in
set_option maxHeartbeats 4000000 in
theorem item_done.calls (g base : Nat) (s : ByteArray) (a : Nat) (fault : Int) (av : Option Addr) (nv cv : Nat) (bs cs n : Nat) (ys : List Value) (va : Value) (na : Nat) (xsa : List Value) (tx : ByteArray) (A : Option Addr) (m c : Nat) (W : World)
    (h : Pz W g s a fault (.slice av nv cv) (.slice (some ⟨bs, 0, none⟩) (n + 1) cs)) (ho : W.ownsRow base 122 4 (.slice (some ⟨bs, 0, none⟩) (n + 1) cs) (n + 1) (ys ++ [va, .int .i64 8, .string tx, .slice A m c])) (hys : ys.length = n * 4)
    (hav : W.ownsRow base 42 3 va na xsa) (hb : base ≤ g) (hn8 : n ≤ 1099511627776) (hna : na ≤ 1099511627776)
    (hs : s.size ≤ 1099511627776) (ha : a < s.size) (hc : (s[a]'ha).toNat = 62) :
    Calls Try.prog 61 #[.pointer (some ⟨g, 0, none⟩)] W fun e W' => e = .returned (.bool true) ∧ ∃ vl', Pz W' g s ((a + 1 : Nat) : Int) fault vl' (.slice (some ⟨bs, 0, none⟩) n cs) ∧ W'.ownsRow base 122 4 (.slice (some ⟨bs, 0, none⟩) n cs) n ys ∧
      W'.ownsRow base 42 3 vl' (na + 1) (xsa ++ [.int .i64 8, .string tx, .slice av nv cv]) ∧ (∀ b, vl'.ownBlock = some b → va.ownBlock = some b ∨ W.heap.size ≤ b) ∧ Fr W W' (fun i => i = g ∨ some i = va.ownBlock) := by
  have hbl : Below W.heap.size W (W.alloc (.cells #[.pointer (some ⟨g, 0, none⟩)] 69)) := (Below.refl _ _).alloc (Nat.le_refl _) _; have hn0 := World.alloc_heap_new W (.cells #[.pointer (some ⟨g, 0, none⟩)] 69); obtain ⟨W0, hW0⟩ : ∃ W0, W.alloc (.cells #[.pointer (some ⟨g, 0, none⟩)] 69) = W0 := ⟨_, rfl⟩; have HW0 := Aside0.mk hW0; rw [hW0] at hbl hn0; have x0 : W0.cell? ⟨W.heap.size, 0, none⟩ = some (.pointer (some ⟨g, 0, none⟩)) := (q10 hn0 0).trans rfl; have hp0 : Pz W0 g s a fault (.slice av nv cv) (.slice (some ⟨bs, 0, none⟩) (n + 1) cs) := h.newer hbl; obtain ⟨p0, p1, p2, p3, p4⟩ := hp0.cells; have pf1 := hp0.fz 1; have hgl : g < W.heap.size := (Array.getElem?_eq_some_iff.1 h).1; have ha0 : (0 : Int) ≤ (a : Int) := Int.natCast_nonneg _
  have ha1 : (a : Int) < (s.size : Int) := by omega
  have hbt : ((s[a]'ha).toNat : Int) = 62 := by omega
  have hw4 : IntKind.i64.wrap ((a : Int) + 1) = (a : Int) + 1 := by rw [i64_w]; rw [wrap64_id (by omega) (by omega)]
  have hidx := index_at 62 (-1) (by decide); have his1 := is_at 62 62 rfl 1 false (by decide); have his2 := is_at 62 62 rfl 2 false (by decide); have HIDX := Aside0.mk hidx; have HIS1 := Aside0.mk his1; have HIS2 := Aside0.mk his2; have HP0 := Aside0.mk hp0; have HBL := Aside0.mk hbl; have HN0 := Aside0.mk hn0; have HO := Aside0.mk ho; have HN8 := Aside0.mk hn8; have HS := Aside0.mk hs; have HA := Aside0.mk ha; have HAV := Aside0.mk hav; have HNA := Aside0.mk hna; have HYS := Aside0.mk hys; clear h ho hn8 hp0 hbl hW0 hn0 hidx his1 his2 hs hc hav hna hys
  go_enter Try.func61, Try.ntmps61
  go_wp2_with fail
  rw [HW0.out]
  go_quiet (fail)
  go_wp2_with fail
  go_quiet (first | (go_at_call 91; exact quiet_of2 (HIDX.out _)))
  go_wp2_with (first
    | (go_at_call 87; refine (HIS1.out _).mono ?_; rintro e w' ⟨rfl, nd, rfl⟩)
    | (go_at_call 87; refine (HIS2.out _).mono ?_; rintro e w' ⟨rfl, nd, rfl⟩)
    | fail)
  refine (end1.calls g base s (a : Int) fault av nv cv bs cs n ys va na xsa 8 tx A m c _ HP0.out.drewN (own_drewN (own_below4 HO.out HBL.out)) HYS.out (own_drewN (own_below4 HAV.out HBL.out)) hb HN8.out HNA.out (by have := HS.out; have := HA.out; omega)).mono ?_; rintro e w5 ⟨rfl, vl', hp, ho, hl, hn, hf⟩; have HP6 := Aside0.mk hp; have HO6 := Aside0.mk ho; have HL6 := Aside0.mk hl; have HN6 := Aside0.mk (show ∀ b, vl'.ownBlock = some b → va.ownBlock = some b ∨ W.heap.size ≤ b from fun b hb => (hn b hb).imp id (Nat.le_trans HBL.out.size)); have HF6 := Aside0.mk (((fr_drewN (fr_below (Fr.refl W _) HBL.out))).trans hf : Fr W w5 (fun i => i = g ∨ some i = va.ownBlock)); clear hp ho hn hf hl
  go_wp2_with fail
  go_ret; exact ⟨rfl, vl', by have := HP6.out; simpa using this, HO6.out, HL6.out, HN6.out, HF6.out⟩
end Go.Proofs.Ytdbjjaodkapikaa.TE
