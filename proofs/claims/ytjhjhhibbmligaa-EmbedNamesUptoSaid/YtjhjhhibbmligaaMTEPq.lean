/- The parser: quotation, every text. -/
import Derived.Test.YtjhjhhibbmligaaMTEPs3
import Derived.Test.YtjhjhhibbmligaaMShelf
import Derived.Test.YtjhjhhibbmligaaMTEPs4
section
namespace Go.Proofs.Ytjhjhhibbmligaa.TE
open Go.RowKit Go.Shelf Go.Proofs.YtjhjhhibbmligaaW.PrintWords Go.Proofs.YtjhjhhibbmligaaW.PrintLast Go.Proofs.YtjhjhhibbmligaaW.PrintMore Go.Proofs.Ytjhjhhibbmligaa.Evs
set_option linter.unusedVariables false
set_option linter.unusedSimpArgs false
theorem quiet_of2 {P : Program} {f : FuncId} {args : Array Value} {w : World} {m n : Nat} {v : Value}
    (h : Calls P f args (w.drewN (m + n)) fun e w' => e = .returned v ∧ ∃ k, w' = (w.drewN (m + n)).drewN k) : Calls P f args (w.drewN (m + n)) fun e w'' => e = .returned v ∧ ∃ k, w'' = w.drewN (m + k) :=
  h.mono fun _ _ ⟨he, k, hm⟩ => ⟨he, n + k, by rw [hm, World.drewN_drewN, Nat.add_assoc]⟩
theorem is_at (c : Nat) (b : UInt8) (hb : b.toNat = c) (m : Int) (v : Bool) (hv : clsB m b = v) (w : World) : Calls Try.prog 156 #[.int .u8 (c : Int), .int .u8 m] w fun e w' => e = .returned (.bool v) ∧ ∃ n, w' = w.drewN n := by
  subst hb; subst hv; exact is_calls b m w
theorem index_at (c : Int) (v : Int) (hv : Lib.indexByte [115, 116, 101] c.toNat.toUInt8 = v) (w : World) : Calls Try.prog 160 #[.string ⟨#[115, 116, 101]⟩, .int .u8 c] w fun e w' => e = .returned (.int .i64 v) ∧ ∃ n, w' = w.drewN n := by
  subst hv; refine (Try.strings_IndexByte ⟨#[115, 116, 101]⟩ c w).mono ?_; rintro e w' ⟨rfl, rfl⟩; exact ⟨rfl, 0, rfl⟩
end Go.Proofs.Ytjhjhhibbmligaa.TE
end
section
namespace Go.Proofs.Ytjhjhhibbmligaa.TE
open Go.RowKit Go.Shelf Go.Proofs.YtjhjhhibbmligaaW.PrintWords Go.Proofs.YtjhjhhibbmligaaW.PrintLast Go.Proofs.YtjhjhhibbmligaaW.PrintMore Go.Proofs.Ytjhjhhibbmligaa.Evs
set_option linter.unusedVariables false
set_option linter.unusedSimpArgs false
set_option maxRecDepth 100000 in
set_option maxHeartbeats 4000000 in
theorem PS.item_open {w0 W : World} {g a : Nat} {s : ByteArray} {fault : Int} {l : List Tm} {st : List Op} (h : PS w0 W g s a fault l st) (hs : s.size ≤ 1048576) (ha : a < s.size) (hst : st.length ≤ 1099511627776) (hc : (s[a]'ha).toNat = 40) :
    Calls Try.prog 120 #[.pointer (some ⟨g, 0, none⟩)] W fun e W' => e = .returned (.bool true) ∧ PS w0 W' g s ((a + 1 : Nat) : Int) fault [] (⟨l, 4, ⟨#[]⟩⟩ :: st) := by
  have hbl : Below W.heap.size W (W.alloc (.cells #[.pointer (some ⟨g, 0, none⟩)] 139)) := (Below.refl _ _).alloc (Nat.le_refl _) _; have hn0 := World.alloc_heap_new W (.cells #[.pointer (some ⟨g, 0, none⟩)] 139); obtain ⟨W0, hW0⟩ : ∃ W0, W.alloc (.cells #[.pointer (some ⟨g, 0, none⟩)] 139) = W0 := ⟨_, rfl⟩; have HW0 := Aside0.mk hW0; rw [hW0] at hbl hn0; have x0 : W0.cell? ⟨W.heap.size, 0, none⟩ = some (.pointer (some ⟨g, 0, none⟩)) := (q4 hn0 0).trans rfl; have hp0 : PS w0 W0 g s a fault l st := h.newer hbl; obtain ⟨p0, p1, p2, pf1⟩ := hp0.cells; have hgl : g < W.heap.size := h.lt; have ha0 : (0 : Int) ≤ (a : Int) := Int.natCast_nonneg _
  have ha1 : (a : Int) < (s.size : Int) := by omega
  have hbt : ((s[a]'ha).toNat : Int) = 40 := by omega
  have hw4 : IntKind.i64.wrap ((a : Int) + 1) = (a : Int) + 1 := by rw [i64_w]; rw [wrap64_id (by omega) (by omega)]
  have hidx := index_at 40 (-1) (by decide); have his1 := is_at 40 40 rfl 1 false (by decide); have his2 := is_at 40 40 rfl 2 false (by decide); have HIDX := Aside0.mk hidx; have HIS1 := Aside0.mk his1; have HIS2 := Aside0.mk his2; have HP0 := Aside0.mk hp0; have HS := Aside0.mk hs; have HA := Aside0.mk ha; have HST := Aside0.mk hst; clear h hp0 hbl hW0 hn0 hidx his1 his2 hs hc hst
  go_enter Try.func120, Try.ntmps120
  go_wp2_with fail
  rw [HW0.out]
  go_quiet (fail)
  go_wp2_with fail
  go_quiet (first | (go_at_call 160; exact quiet_of2 (HIDX.out _)))
  go_wp2_with (first
    | (go_at_call 156; refine (HIS1.out _).mono ?_; rintro e w' ⟨rfl, nd, rfl⟩)
    | (go_at_call 156; refine (HIS2.out _).mono ?_; rintro e w' ⟨rfl, nd, rfl⟩)
    | fail)
  refine ((HP0.out.drewN.setAt ((a : Int) + 1)).begin 4 ⟨#[]⟩ HST.out).mono ?_; rintro e w5 ⟨rfl, hp⟩; have HP6 := Aside0.mk hp; clear hp
  go_wp2_with fail
  go_ret; exact ⟨rfl, by have := HP6.out; simpa using this⟩
set_option maxRecDepth 100000 in
set_option maxHeartbeats 4000000 in
theorem PS.item_call {w0 W : World} {g a : Nat} {s : ByteArray} {fault : Int} {l : List Tm} {st : List Op} (h : PS w0 W g s a fault l st) (hs : s.size ≤ 1048576) (ha : a < s.size) (hst : st.length ≤ 1099511627776) (hc : (s[a]'ha).toNat = 60) :
    Calls Try.prog 120 #[.pointer (some ⟨g, 0, none⟩)] W fun e W' => e = .returned (.bool (callS s a fault l st).1) ∧ PS w0 W' g s (callS s a fault l st).2.1 (callS s a fault l st).2.2.1 (callS s a fault l st).2.2.2.1 (callS s a fault l st).2.2.2.2 := by
  have hbl : Below W.heap.size W (W.alloc (.cells #[.pointer (some ⟨g, 0, none⟩)] 139)) := (Below.refl _ _).alloc (Nat.le_refl _) _; have hn0 := World.alloc_heap_new W (.cells #[.pointer (some ⟨g, 0, none⟩)] 139); obtain ⟨W0, hW0⟩ : ∃ W0, W.alloc (.cells #[.pointer (some ⟨g, 0, none⟩)] 139) = W0 := ⟨_, rfl⟩; have HW0 := Aside0.mk hW0; rw [hW0] at hbl hn0; have x0 : W0.cell? ⟨W.heap.size, 0, none⟩ = some (.pointer (some ⟨g, 0, none⟩)) := (q4 hn0 0).trans rfl; have hp0 : PS w0 W0 g s a fault l st := h.newer hbl; obtain ⟨p0, p1, p2, pf1⟩ := hp0.cells; have hgl : g < W.heap.size := h.lt; have ha0 : (0 : Int) ≤ (a : Int) := Int.natCast_nonneg _
  have ha1 : (a : Int) < (s.size : Int) := by omega
  have hbt : ((s[a]'ha).toNat : Int) = 60 := by omega
  have hw4 : IntKind.i64.wrap ((a : Int) + 1) = (a : Int) + 1 := by rw [i64_w]; rw [wrap64_id (by omega) (by omega)]
  have hidx := index_at 60 (-1) (by decide); have his1 := is_at 60 60 rfl 1 false (by decide); have his2 := is_at 60 60 rfl 2 false (by decide); have HIDX := Aside0.mk hidx; have HIS1 := Aside0.mk his1; have HIS2 := Aside0.mk his2; have HP0 := Aside0.mk hp0; have HS := Aside0.mk hs; have HA := Aside0.mk ha; have HST := Aside0.mk hst; clear h hp0 hbl hW0 hn0 hidx his1 his2 hs hc hst
  go_enter Try.func120, Try.ntmps120
  go_wp2_with fail
  rw [HW0.out]
  go_quiet (fail)
  go_wp2_with fail
  go_quiet (first | (go_at_call 160; exact quiet_of2 (HIDX.out _)))
  go_wp2_with (first
    | (go_at_call 156; refine (HIS1.out _).mono ?_; rintro e w' ⟨rfl, nd, rfl⟩)
    | (go_at_call 156; refine (HIS2.out _).mono ?_; rintro e w' ⟨rfl, nd, rfl⟩)
    | fail)
  refine (HP0.out.drewN.call HS.out HA.out HST.out).mono ?_; rintro e w5 ⟨rfl, hp⟩; have HP6 := Aside0.mk hp; clear hp
  go_wp2_with fail
  go_ret; exact ⟨rfl, HP6.out⟩
set_option maxRecDepth 100000 in
set_option maxHeartbeats 4000000 in
theorem PS.item_shut {w0 W : World} {g a : Nat} {s : ByteArray} {fault : Int} {l : List Tm} {st : List Op} (h : PS w0 W g s a fault l st) (hs : s.size ≤ 1048576) (ha : a < s.size) (hst : st.length ≤ 1099511627776) (hal : ∀ o ∈ st, o.ahead.length ≤ 1099511627776) (hc : (s[a]'ha).toNat = 41) :
    Calls Try.prog 120 #[.pointer (some ⟨g, 0, none⟩)] W fun e W' => e = .returned (.bool (endS 4 (a : Int) fault l st).1) ∧ PS w0 W' g s (endS 4 (a : Int) fault l st).2.1 (endS 4 (a : Int) fault l st).2.2.1 (endS 4 (a : Int) fault l st).2.2.2.1 (endS 4 (a : Int) fault l st).2.2.2.2 := by
  have hbl : Below W.heap.size W (W.alloc (.cells #[.pointer (some ⟨g, 0, none⟩)] 139)) := (Below.refl _ _).alloc (Nat.le_refl _) _; have hn0 := World.alloc_heap_new W (.cells #[.pointer (some ⟨g, 0, none⟩)] 139); obtain ⟨W0, hW0⟩ : ∃ W0, W.alloc (.cells #[.pointer (some ⟨g, 0, none⟩)] 139) = W0 := ⟨_, rfl⟩; have HW0 := Aside0.mk hW0; rw [hW0] at hbl hn0; have x0 : W0.cell? ⟨W.heap.size, 0, none⟩ = some (.pointer (some ⟨g, 0, none⟩)) := (q4 hn0 0).trans rfl; have hp0 : PS w0 W0 g s a fault l st := h.newer hbl; obtain ⟨p0, p1, p2, pf1⟩ := hp0.cells; have hgl : g < W.heap.size := h.lt; have ha0 : (0 : Int) ≤ (a : Int) := Int.natCast_nonneg _
  have ha1 : (a : Int) < (s.size : Int) := by omega
  have hbt : ((s[a]'ha).toNat : Int) = 41 := by omega
  have hw4 : IntKind.i64.wrap ((a : Int) + 1) = (a : Int) + 1 := by rw [i64_w]; rw [wrap64_id (by omega) (by omega)]
  have hidx := index_at 41 (-1) (by decide); have his1 := is_at 41 41 rfl 1 false (by decide); have his2 := is_at 41 41 rfl 2 false (by decide); have HIDX := Aside0.mk hidx; have HIS1 := Aside0.mk his1; have HIS2 := Aside0.mk his2; have HP0 := Aside0.mk hp0; have HS := Aside0.mk hs; have HA := Aside0.mk ha; have HST := Aside0.mk hst; have HAL := Aside0.mk hal; clear hal; clear h hp0 hbl hW0 hn0 hidx his1 his2 hs hc hst
  go_enter Try.func120, Try.ntmps120
  go_wp2_with fail
  rw [HW0.out]
  go_quiet (fail)
  go_wp2_with fail
  go_quiet (first | (go_at_call 160; exact quiet_of2 (HIDX.out _)))
  go_wp2_with (first
    | (go_at_call 156; refine (HIS1.out _).mono ?_; rintro e w' ⟨rfl, nd, rfl⟩)
    | (go_at_call 156; refine (HIS2.out _).mono ?_; rintro e w' ⟨rfl, nd, rfl⟩)
    | fail)
  refine (HP0.out.drewN.end_ 4 HST.out HAL.out (by have := HS.out; have := HA.out; omega)).mono ?_; rintro e w5 ⟨rfl, hp⟩; have HP6 := Aside0.mk hp; clear hp
  go_wp2_with fail
  go_ret; exact ⟨rfl, HP6.out⟩
set_option maxRecDepth 100000 in
set_option maxHeartbeats 4000000 in
theorem PS.item_done {w0 W : World} {g a : Nat} {s : ByteArray} {fault : Int} {l : List Tm} {st : List Op} (h : PS w0 W g s a fault l st) (hs : s.size ≤ 1048576) (ha : a < s.size) (hst : st.length ≤ 1099511627776) (hal : ∀ o ∈ st, o.ahead.length ≤ 1099511627776) (hc : (s[a]'ha).toNat = 62) :
    Calls Try.prog 120 #[.pointer (some ⟨g, 0, none⟩)] W fun e W' => e = .returned (.bool (endS 8 (a : Int) fault l st).1) ∧ PS w0 W' g s (endS 8 (a : Int) fault l st).2.1 (endS 8 (a : Int) fault l st).2.2.1 (endS 8 (a : Int) fault l st).2.2.2.1 (endS 8 (a : Int) fault l st).2.2.2.2 := by
  have hbl : Below W.heap.size W (W.alloc (.cells #[.pointer (some ⟨g, 0, none⟩)] 139)) := (Below.refl _ _).alloc (Nat.le_refl _) _; have hn0 := World.alloc_heap_new W (.cells #[.pointer (some ⟨g, 0, none⟩)] 139); obtain ⟨W0, hW0⟩ : ∃ W0, W.alloc (.cells #[.pointer (some ⟨g, 0, none⟩)] 139) = W0 := ⟨_, rfl⟩; have HW0 := Aside0.mk hW0; rw [hW0] at hbl hn0; have x0 : W0.cell? ⟨W.heap.size, 0, none⟩ = some (.pointer (some ⟨g, 0, none⟩)) := (q4 hn0 0).trans rfl; have hp0 : PS w0 W0 g s a fault l st := h.newer hbl; obtain ⟨p0, p1, p2, pf1⟩ := hp0.cells; have hgl : g < W.heap.size := h.lt; have ha0 : (0 : Int) ≤ (a : Int) := Int.natCast_nonneg _
  have ha1 : (a : Int) < (s.size : Int) := by omega
  have hbt : ((s[a]'ha).toNat : Int) = 62 := by omega
  have hw4 : IntKind.i64.wrap ((a : Int) + 1) = (a : Int) + 1 := by rw [i64_w]; rw [wrap64_id (by omega) (by omega)]
  have hidx := index_at 62 (-1) (by decide); have his1 := is_at 62 62 rfl 1 false (by decide); have his2 := is_at 62 62 rfl 2 false (by decide); have HIDX := Aside0.mk hidx; have HIS1 := Aside0.mk his1; have HIS2 := Aside0.mk his2; have HP0 := Aside0.mk hp0; have HS := Aside0.mk hs; have HA := Aside0.mk ha; have HST := Aside0.mk hst; have HAL := Aside0.mk hal; clear hal; clear h hp0 hbl hW0 hn0 hidx his1 his2 hs hc hst
  go_enter Try.func120, Try.ntmps120
  go_wp2_with fail
  rw [HW0.out]
  go_quiet (fail)
  go_wp2_with fail
  go_quiet (first | (go_at_call 160; exact quiet_of2 (HIDX.out _)))
  go_wp2_with (first
    | (go_at_call 156; refine (HIS1.out _).mono ?_; rintro e w' ⟨rfl, nd, rfl⟩)
    | (go_at_call 156; refine (HIS2.out _).mono ?_; rintro e w' ⟨rfl, nd, rfl⟩)
    | fail)
  refine (HP0.out.drewN.end_ 8 HST.out HAL.out (by have := HS.out; have := HA.out; omega)).mono ?_; rintro e w5 ⟨rfl, hp⟩; have HP6 := Aside0.mk hp; clear hp
  go_wp2_with fail
  go_ret; exact ⟨rfl, HP6.out⟩
end Go.Proofs.Ytjhjhhibbmligaa.TE
end
section
namespace Go.Proofs.Ytjhjhhibbmligaa.TE
open Go.RowKit Go.Shelf Go.Proofs.YtjhjhhibbmligaaW.PrintWords Go.Proofs.YtjhjhhibbmligaaW.PrintLast Go.Proofs.YtjhjhhibbmligaaW.PrintMore Go.Proofs.Ytjhjhhibbmligaa.Evs
set_option linter.unusedVariables false
set_option linter.unusedSimpArgs false
def hexV (b : UInt8) : Int := if 48 ≤ b.toNat ∧ b.toNat ≤ 57 then (b.toNat : Int) - 48 else if 97 ≤ b.toNat ∧ b.toNat ≤ 102 then (b.toNat : Int) - 87 else if 65 ≤ b.toNat ∧ b.toNat ≤ 70 then (b.toNat : Int) - 55 else -1
theorem hexv_at (b : UInt8) : term_hexadecimal.f 5 (b.toNat : Int) = some (hexV b) := by
  revert b
  refine byte_all _ ?_
  decide +kernel
theorem hexV_range (b : UInt8) : -1 ≤ hexV b ∧ hexV b ≤ 15 := by unfold hexV; split <;> (try split) <;> (try split) <;> omega
def hexB (x y : Int) : UInt8 := UInt8.ofNat (16 * x + y).toNat
inductive QR where
  | done (ok : Bool) (at_ : Nat) (bad : Option Nat) (out : List UInt8)
  | more (at_ : Nat) (out : List UInt8)
def quoR (s : ByteArray) (q : UInt8) (a : Nat) (acc : List UInt8) : QR :=
  if h : a < s.size then
    if (s[a]'h) = q then .done true (a + 1) none acc
    else if (s[a]'h).toNat < 32 ∨ 126 < (s[a]'h).toNat then .done false a (some a) []
    else if (s[a]'h).toNat ≠ 92 then .more (a + 1) (acc ++ [s[a]'h])
    else if h1 : a + 1 < s.size then
      if (s[a + 1]'h1).toNat = 92 ∨ (s[a + 1]'h1) = q then .more (a + 2) (acc ++ [s[a + 1]'h1])
      else if (s[a + 1]'h1).toNat = 110 ∧ q.toNat = 39 then .more (a + 2) (acc ++ [10])
      else if (s[a + 1]'h1).toNat = 116 ∧ q.toNat = 39 then .more (a + 2) (acc ++ [9])
      else if (s[a + 1]'h1).toNat = 120 ∧ q.toNat = 39 then
        if h3 : a + 3 < s.size then
          if hexV (s[a + 2]'(by omega)) < 0 ∨ hexV (s[a + 3]'h3) < 0 then .done false (a + 1) (some a) []
          else .more (a + 4) (acc ++ [hexB (hexV (s[a + 2]'(by omega))) (hexV (s[a + 3]'h3))])
        else .done false (a + 1) (some a) []
      else .done false (a + 1) (some a) []
    else .done false (a + 1) (some a) []
  else .done false a (some s.size) []
def QOk (n a : Nat) (acc : List UInt8) : QR → Prop
  | .done _ _ _ _ => True
  | .more a' acc' => a < a' ∧ a < n ∧ acc'.length = acc.length + 1
theorem dite_okQ {c : Prop} [Decidable c] {P : QR → Prop} {x : c → QR} {y : ¬ c → QR} (h1 : ∀ h, P (x h)) (h2 : ∀ h, P (y h)) : P (dite c x y) := by
  by_cases h : c
  · rw [dif_pos h]; exact h1 h
  · rw [dif_neg h]; exact h2 h
theorem ite_okQ {c : Prop} [Decidable c] {P : QR → Prop} {x y : QR} (h1 : P x) (h2 : P y) : P (ite c x y) := by
  by_cases h : c
  · rw [if_pos h]; exact h1
  · rw [if_neg h]; exact h2
theorem quoR_ok (s : ByteArray) (q : UInt8) (a : Nat) (acc : List UInt8) : QOk s.size a acc (quoR s q a acc) := by
  unfold quoR; refine dite_okQ (fun h => ?_) (fun h => trivial); refine ite_okQ trivial (ite_okQ trivial (ite_okQ ⟨by omega, h, by simp⟩ (dite_okQ (fun h1 => ?_) (fun _ => trivial)))); refine ite_okQ ⟨by omega, h, by simp⟩ (ite_okQ ⟨by omega, h, by simp⟩ (ite_okQ ⟨by omega, h, by simp⟩ (ite_okQ (dite_okQ (fun h3 => ?_) (fun _ => trivial)) trivial))); exact ite_okQ trivial ⟨by omega, h, by simp⟩
theorem quoR_lt {s : ByteArray} {q : UInt8} {a a' : Nat} {acc acc' : List UInt8} (h : quoR s q a acc = .more a' acc') : a < a' ∧ a < s.size ∧ acc'.length = acc.length + 1 := by
  have := quoR_ok s q a acc; rw [h] at this; exact this
def quoS (s : ByteArray) (q : UInt8) (a : Nat) (acc : List UInt8) : Bool × Nat × Option Nat × List UInt8 :=
  match h : quoR s q a acc with
  | .done ok at_ bad out => (ok, at_, bad, out)
  | .more a' acc' => quoS s q a' acc'
  termination_by s.size - a
  decreasing_by have := quoR_lt h; omega
theorem quoS_done {s : ByteArray} {q : UInt8} {a : Nat} {acc : List UInt8} {ok : Bool} {at_ : Nat} {bad : Option Nat} {out : List UInt8} (h : quoR s q a acc = .done ok at_ bad out) : quoS s q a acc = (ok, at_, bad, out) := by
  rw [quoS]; split
  · rename_i h'; rw [h] at h'; cases h'; rfl
  · rename_i h'; rw [h] at h'; cases h'
theorem quoS_more {s : ByteArray} {q : UInt8} {a a' : Nat} {acc acc' : List UInt8} (h : quoR s q a acc = .more a' acc') : quoS s q a acc = quoS s q a' acc' := by
  rw [quoS]; split
  · rename_i h'; rw [h] at h'; cases h'
  · rename_i h'; rw [h] at h'; cases h'; rfl
def failO (fault : Int) : Option Nat → Int
  | none => fault
  | some x => failF fault (x : Int)
theorem hexB_eq {x y : Int} (hx : 0 ≤ x ∧ x ≤ 15) (hy : 0 ≤ y ∧ y ≤ 15) : Go.bits .or .i64 (x * 16) y % 256 = ((hexB x y).toNat : Int) := by
  have key : ∀ x y : Fin 16, Go.bits .or .i64 (((x : Nat) : Int) * 16) ((y : Nat) : Int) % 256 = ((hexB ((x : Nat) : Int) ((y : Nat) : Int)).toNat : Int) := by decide +kernel
  have h := key ⟨x.toNat, by omega⟩ ⟨y.toNat, by omega⟩; simp only [Int.toNat_of_nonneg hx.1, Int.toNat_of_nonneg hy.1] at h; exact h
set_option maxRecDepth 100000 in
set_option maxHeartbeats 4000000 in
theorem quotation.calls (g : Nat) (s : ByteArray) (a : Nat) (fault : Int) (vl vs : Value) (W : World) (h : Pz W g s a fault vl vs) (hs : s.size ≤ 1048576) (has : a < s.size) :
    Calls Try.prog 158 #[.pointer (some ⟨g, 0, none⟩)] W fun x W' => ∃ vo, x = .returned (.tuple #[vo, .bool (quoS s (s[a]'has) (a + 1) []).1]) ∧ Pz W' g s ((quoS s (s[a]'has) (a + 1) []).2.1 : Nat) (failO fault (quoS s (s[a]'has) (a + 1) []).2.2.1) vl vs ∧
      W'.ownsRow W.heap.size 5 1 vo (quoS s (s[a]'has) (a + 1) []).2.2.2.length (Lib.byteCells (quoS s (s[a]'has) (a + 1) []).2.2.2) ∧ Fr W W' (fun i => i = g) := by
  obtain ⟨p0, p1, p2, p3, p4⟩ := h.cells; have pf1 := h.fz 1; obtain ⟨q0, hq0⟩ : ∃ q0, q0 = s[a]'has := ⟨_, rfl⟩
  have hqt : ((s[a]'has).toNat : Int) = (q0.toNat : Int) := by rw [hq0]
  rw [← hq0]; obtain ⟨R, hR⟩ : ∃ R, R = quoS s q0 (a + 1) [] := ⟨_, rfl⟩; rw [← hR]
  have hw4 : IntKind.i64.wrap ((a : Int) + 1) = (a : Int) + 1 := by rw [i64_w]; rw [wrap64_id (by omega) (by omega)]
  have ha0 : (0 : Int) ≤ (a : Int) := Int.natCast_nonneg _
  have ha1 : (a : Int) < (s.size : Int) := by omega
  have H := Aside0.mk h; have HS := Aside0.mk hs; have HR := Aside0.mk hR; clear h hq0 hs hR p2 p3 p4; obtain ⟨i0, hi, hz0, hz1, hz2⟩ := info_parts info_byte
  go_enter Try.func158, Try.ntmps158
  go_wp2_with fail
  go_quiet (fail)
  go_wp2_with fail
  clear p0 p1 pf1 hw4
  go_loopg [5] (s.size + 1) (fun gk v5 wr_ => ∃ (q : Nat) (acc : List UInt8), q ≤ s.size ∧ acc.length ≤ q ∧ s.size - q < gk ∧ Aside0 (R = quoS s q0 q acc) ∧ Aside0 (Pz wr_ g s (q : Nat) fault vl vs) ∧ Aside0 (wr_.ownsRow W.heap.size 5 1 v5 acc.length (Lib.byteCells acc)) ∧ Aside0 (Fr W wr_ (fun i => i = g)))
  case atStart => exact ⟨a + 1, [], by omega, by simp, by omega, HR, ⟨by have := H.out.drewN (n := nq) |>.setAt ((a : Int) + 1); simpa using this⟩, ⟨by simpa [Lib.byteCells] using World.ownsRow_nil _ _ _ _⟩, ⟨fr_grown (fr_drewN (Fr.refl W _)) (grown_set _ g 1 _)⟩⟩
  case round =>
    clear HR; obtain ⟨q, acc, hqs, hal, hgk, HR, HP, HO, HF⟩ := hrel; obtain ⟨g', rfl⟩ : ∃ g', gk = g' + 1 := ⟨gk - 1, by omega⟩; obtain ⟨c0, c1, c2, c3, c4⟩ := HP.out.cells; have f1 := HP.out.fz 1; have hgl : g < wr.heap.size := (Array.getElem?_eq_some_iff.1 HP.out).1; have hq0' : (0 : Int) ≤ (q : Int) := Int.natCast_nonneg _; have hs8 := HS.out
    have hw5 : IntKind.i64.wrap ((q : Int) + 1) = (q : Int) + 1 := by rw [i64_w]; rw [wrap64_id (by omega) (by omega)]
    have hn8 : acc.length ≤ 1048576 := by omega
    have HN8 := Aside0.mk hn8; have HSZ := Aside0.mk HF.out.size; have HAL := Aside0.mk hal; have HQS := Aside0.mk hqs; have HGK := Aside0.mk hgk; clear hal hn8 hqs hgk
    by_cases hlt : q < s.size
    · have e1 : decide ((q : Int) < (s.size : Int)) = true := decide_eq_true (by omega)
      have hq1 : (q : Int) < (s.size : Int) := by omega
      obtain ⟨b, hb⟩ : ∃ b, b = s[q]'hlt := ⟨_, rfl⟩
      have hbt : ((s[q]'hlt).toNat : Int) = (b.toNat : Int) := by rw [hb]
      have HB := Aside0.mk hb; have HLT := Aside0.mk hlt; clear hb hs8
      go_wp2_with fail
      go_quiet (fail)
      have hp_ := HP.out.drewN (n := nq); have ho_ := own_drewN (k := nq) HO.out; have hf_ := fr_drewN (n := nq) HF.out; clear HP HO HF; obtain ⟨wa, hwz⟩ : ∃ wz, wz = wr.drewN nq := ⟨_, rfl⟩; rw [← hwz] at hp_ ho_ hf_ ⊢; clear hwz; have HP := Aside0.mk hp_; have HO := Aside0.mk ho_; have HF := Aside0.mk hf_; clear hp_ ho_ hf_ c0 c1 c2 c3 c4 f1; obtain ⟨c0, c1, c2, c3, c4⟩ := HP.out.cells; have f1 := HP.out.fz 1
      go_wp2_with fail
      go_quiet (fail)
      have hp_ := HP.out.drewN (n := nq); have ho_ := own_drewN (k := nq) HO.out; have hf_ := fr_drewN (n := nq) HF.out; clear HP HO HF; obtain ⟨wb, hwz⟩ : ∃ wz, wz = wa.drewN nq := ⟨_, rfl⟩; rw [← hwz] at hp_ ho_ hf_ ⊢; clear hwz; have HP := Aside0.mk hp_; have HO := Aside0.mk ho_; have HF := Aside0.mk hf_; clear hp_ ho_ hf_ c0 c1 c2 c3 c4 f1; obtain ⟨c0, c1, c2, c3, c4⟩ := HP.out.cells; have f1 := HP.out.fz 1; have hgb : g < wb.heap.size := (Array.getElem?_eq_some_iff.1 HP.out).1
      by_cases hbq0 : b = q0
      · have hbq : ((b.toNat : Int) == (q0.toNat : Int)) = true := by rw [hbq0]; simp
        have HRD : Aside0 (R = (true, q + 1, none, acc)) := ⟨by rw [HR.out]; exact quoS_done (by unfold quoR; rw [dif_pos HLT.out, if_pos (by rw [← HB.out]; exact hbq0)])⟩; clear hbq0
        go_wp2_with fail
        go_ret2
        rw [HRD.out]; refine ⟨_, rfl, ?_, own_farG HO.out g 1 _ (own_neG HO.out (by decide) HP.out), fr_grown HF.out (grown_set _ g 1 _)⟩; exact HP.out.setAt _
      · have hbq : ((b.toNat : Int) == (q0.toNat : Int)) = false := by
          have : b.toNat ≠ q0.toNat := fun e => hbq0 (UInt8.toNat_inj.1 e)
          simp; omega
        have HN0 := Aside0.mk hbq0; clear hbq0
        by_cases hlo : b.toNat < 32 ∨ 126 < b.toNat
        · have HRD : Aside0 (R = (false, q, some q, [])) := ⟨by rw [HR.out]; exact quoS_done (by unfold quoR; rw [dif_pos HLT.out, if_neg (by rw [← HB.out]; exact HN0.out), if_pos (by rw [← HB.out]; exact hlo)])⟩; have hcall := fail.calls g s (q : Nat) fault (q : Nat) vl vs wb HP.out; have HCALL := Aside0.mk hcall; clear hcall
          by_cases h32 : b.toNat < 32
          · have e32 : decide ((b.toNat : Int) < 32) = true := decide_eq_true (by omega); clear h32 hlo
            go_wp2_with fail
            refine HCALL.out.mono ?_; rintro e w2 ⟨rfl, hp, hg⟩; have HPe := Aside0.mk hp; have HFe := Aside0.mk (fr_grown HF.out hg); clear hp hg HCALL
            go_wp2_with fail
            go_ret2
            rw [HRD.out]; exact ⟨_, rfl, HPe.out, by simpa [Lib.byteCells] using World.ownsRow_nil _ _ _ _, HFe.out⟩
          · have e32 : decide ((b.toNat : Int) < 32) = false := decide_eq_false (by omega); have e126 : decide ((126 : Int) < (b.toNat : Int)) = true := decide_eq_true (by omega); clear h32 hlo
            go_wp2_with fail
            refine HCALL.out.mono ?_; rintro e w2 ⟨rfl, hp, hg⟩; have HPe := Aside0.mk hp; have HFe := Aside0.mk (fr_grown HF.out hg); clear hp hg HCALL
            go_wp2_with fail
            go_ret2
            rw [HRD.out]; exact ⟨_, rfl, HPe.out, by simpa [Lib.byteCells] using World.ownsRow_nil _ _ _ _, HFe.out⟩
        · have e32 : decide ((b.toNat : Int) < 32) = false := decide_eq_false (by omega); have e126 : decide ((126 : Int) < (b.toNat : Int)) = false := decide_eq_false (by omega); have HLO := Aside0.mk hlo; clear hlo
          by_cases h92 : b.toNat = 92
          · have e92 : ((b.toNat : Int) != 92) = false := by simp; omega
            have H92 := Aside0.mk h92
            have hw6 : IntKind.i64.wrap ((q : Int) + 1 + 1) = (q : Int) + 1 + 1 := by have := HS.out; rw [i64_w]; rw [wrap64_id (by omega) (by omega)]
            clear h92; have hp_ : Pz (wb.setCell ⟨g, 1, none⟩ (.int .i64 ((q : Int) + 1))) g s ((q + 1 : Nat) : Int) fault vl vs := HP.out.setAt ((q : Int) + 1); have ho_ := own_farG HO.out g 1 (.int .i64 ((q : Int) + 1)) (own_neG HO.out (by decide) HP.out); have hf_ := fr_grown HF.out (grown_set wb g 1 (.int .i64 ((q : Int) + 1))); obtain ⟨wc, hwc⟩ : ∃ wc, wb.setCell ⟨g, 1, none⟩ (.int .i64 ((q : Int) + 1)) = wc := ⟨_, rfl⟩; rw [hwc] at hp_ ho_ hf_; have HWC := Aside0.mk hwc; clear hwc
            go_wp2_with fail
            rw [HWC.out]; clear HP HO HF; have HP := Aside0.mk hp_; have HO := Aside0.mk ho_; have HF := Aside0.mk hf_; clear hp_ ho_ hf_ c0 c1 c2 c3 c4 f1 HWC; obtain ⟨c0, c1, c2, c3, c4⟩ := HP.out.cells; have f1 := HP.out.fz 1
            by_cases hlt1 : q + 1 < s.size
            · have e1' : (((q : Int) + 1) == (s.size : Int)) = false := by simp; omega
              have e1'' : (((q + 1 : Nat) : Int) == (s.size : Int)) = false := by simp; omega
              have hq2 : (q : Int) + 1 < (s.size : Int) := by omega
              have hq3 : (0 : Int) ≤ (q : Int) + 1 := by omega
              obtain ⟨d, hd⟩ : ∃ d, d = s[q + 1]'hlt1 := ⟨_, rfl⟩
              have hdt : ((s[q + 1]'hlt1).toNat : Int) = (d.toNat : Int) := by rw [hd]
              have HD := Aside0.mk hd; have HLT1 := Aside0.mk hlt1; clear hd
              go_wp2_with fail
              go_quiet (fail)
              have hp_ := HP.out.drewN (n := nq); have ho_ := own_drewN (k := nq) HO.out; have hf_ := fr_drewN (n := nq) HF.out; clear HP HO HF; obtain ⟨wd, hwz⟩ : ∃ wz, wz = wc.drewN nq := ⟨_, rfl⟩; rw [← hwz] at hp_ ho_ hf_ ⊢; clear hwz; have HP := Aside0.mk hp_; have HO := Aside0.mk ho_; have HF := Aside0.mk hf_; clear hp_ ho_ hf_ c0 c1 c2 c3 c4 f1; obtain ⟨c0, c1, c2, c3, c4⟩ := HP.out.cells; have f1 := HP.out.fz 1
              go_wp2_with fail
              go_quiet (fail)
              have hp_ := HP.out.drewN (n := nq); have ho_ := own_drewN (k := nq) HO.out; have hf_ := fr_drewN (n := nq) HF.out; clear HP HO HF; obtain ⟨we, hwz⟩ : ∃ wz, wz = wd.drewN nq := ⟨_, rfl⟩; rw [← hwz] at hp_ ho_ hf_ ⊢; clear hwz; have HP := Aside0.mk hp_; have HO := Aside0.mk ho_; have HF := Aside0.mk hf_; clear hp_ ho_ hf_ c0 c1 c2 c3 c4 f1; obtain ⟨c0, c1, c2, c3, c4⟩ := HP.out.cells; have f1 := HP.out.fz 1; have hge : g < we.heap.size := (Array.getElem?_eq_some_iff.1 HP.out).1
              by_cases ha : d.toNat = 92 ∨ d = q0
              · have HRD : Aside0 (R = quoS s q0 (q + 2) (acc ++ [d])) := ⟨by rw [HR.out]; exact quoS_more (by unfold quoR; rw [dif_pos HLT.out, if_neg (by rw [← HB.out]; exact HN0.out), if_neg (by rw [← HB.out]; exact HLO.out), if_neg (by rw [← HB.out]; exact fun h => h H92.out), dif_pos HLT1.out, if_pos (by rw [← HD.out]; exact ha), ← HD.out])⟩
                by_cases hd92 : d.toNat = 92
                · have k1 : ((d.toNat : Int) == 92) = true := by simp; omega
                  clear ha hd92
                  go_wp2_with (at_builtin; refine wpList_append_own _ rfl _ _ 132 rfl W.heap.size 5 i0 (.int .u8 0) 1 1 Try.underlying132 hi hz0 hz1 hz2 rfl (by decide) _ _ _ rfl (HO.out.alloc _) ⟨we.heap.size, 0, none⟩ 1 1 [.int .u8 (d.toNat : Int)] rfl rfl (cell_new1 _ _ _) (by simp [Value.oneCell']) (by have := HN8.out; simp only [maxLen]; omega) (by have := HN8.out; omega) (by have := HF.out.size; simp; omega) ?_; intro v' w5 hown5 hgrow5 _; have HOW5 := Aside0.mk hown5; have HFR5 := Aside0.mk (fr_row (fr_new HF.out _) hgrow5 (fun k hk => (HO.out.lt k hk).1)); have HPZ5 := Aside0.mk (Pz.grown (Pz.newer HP.out ((Below.refl _ _).alloc (Nat.le_refl _) _)) hgrow5 (own_neG HO.out (by decide) HP.out)); have d1 := HPZ5.out.cells.2.1; have df1 := HPZ5.out.fz 1; have dgl : g < w5.heap.size := (Array.getElem?_eq_some_iff.1 HPZ5.out).1; clear hown5 hgrow5)
                  go_roundg g'
                  case measure => have := HGK.out; omega
                  case rel =>
                    refine ⟨q + 2, acc ++ [d], by have := HLT1.out; omega, by have := HAL.out; simp; omega, by have := HGK.out; have := HLT.out; omega, HRD, ⟨?_⟩, ⟨?_⟩, ⟨fr_grown HFR5.out (grown_set _ g 1 _)⟩⟩
                    · have h5 := HPZ5.out.setAt ((q : Int) + 1 + 1); rw [show (((q + 2 : Nat) : Int)) = (q : Int) + 1 + 1 by omega]; exact h5
                    · rw [byteCells_snoc1, List.length_append, List.length_singleton]; exact own_farG HOW5.out g 1 _ (own_neG HOW5.out (by decide) HPZ5.out)
                · have k1 : ((d.toNat : Int) == 92) = false := by simp; omega
                  have k2 : ((d.toNat : Int) == (q0.toNat : Int)) = true := by rw [ha.resolve_left hd92]; simp
                  clear ha hd92
                  go_wp2_with (at_builtin; refine wpList_append_own _ rfl _ _ 132 rfl W.heap.size 5 i0 (.int .u8 0) 1 1 Try.underlying132 hi hz0 hz1 hz2 rfl (by decide) _ _ _ rfl (HO.out.alloc _) ⟨we.heap.size, 0, none⟩ 1 1 [.int .u8 (d.toNat : Int)] rfl rfl (cell_new1 _ _ _) (by simp [Value.oneCell']) (by have := HN8.out; simp only [maxLen]; omega) (by have := HN8.out; omega) (by have := HF.out.size; simp; omega) ?_; intro v' w5 hown5 hgrow5 _; have HOW5 := Aside0.mk hown5; have HFR5 := Aside0.mk (fr_row (fr_new HF.out _) hgrow5 (fun k hk => (HO.out.lt k hk).1)); have HPZ5 := Aside0.mk (Pz.grown (Pz.newer HP.out ((Below.refl _ _).alloc (Nat.le_refl _) _)) hgrow5 (own_neG HO.out (by decide) HP.out)); have d1 := HPZ5.out.cells.2.1; have df1 := HPZ5.out.fz 1; have dgl : g < w5.heap.size := (Array.getElem?_eq_some_iff.1 HPZ5.out).1; clear hown5 hgrow5)
                  go_roundg g'
                  case measure => have := HGK.out; omega
                  case rel =>
                    refine ⟨q + 2, acc ++ [d], by have := HLT1.out; omega, by have := HAL.out; simp; omega, by have := HGK.out; have := HLT.out; omega, HRD, ⟨?_⟩, ⟨?_⟩, ⟨fr_grown HFR5.out (grown_set _ g 1 _)⟩⟩
                    · have h5 := HPZ5.out.setAt ((q : Int) + 1 + 1); rw [show (((q + 2 : Nat) : Int)) = (q : Int) + 1 + 1 by omega]; exact h5
                    · rw [byteCells_snoc1, List.length_append, List.length_singleton]; exact own_farG HOW5.out g 1 _ (own_neG HOW5.out (by decide) HPZ5.out)
              · have k1 : ((d.toNat : Int) == 92) = false := by simp; omega
                have k2 : ((d.toNat : Int) == (q0.toNat : Int)) = false := by
                  have : d.toNat ≠ q0.toNat := fun e => ha (.inr (UInt8.toNat_inj.1 e))
                  simp; omega
                have HA := Aside0.mk ha; clear ha
                by_cases hq39 : q0.toNat = 39
                · have k3 : ((q0.toNat : Int) == 39) = true := by simp; omega
                  have H39 := Aside0.mk hq39; clear hq39
                  by_cases h110 : d.toNat = 110
                  · have k4 : ((d.toNat : Int) == 110) = true := by simp; omega
                    have HRD : Aside0 (R = quoS s q0 (q + 2) (acc ++ [10])) := ⟨by rw [HR.out]; exact quoS_more (by unfold quoR; rw [dif_pos HLT.out, if_neg (by rw [← HB.out]; exact HN0.out), if_neg (by rw [← HB.out]; exact HLO.out), if_neg (by rw [← HB.out]; exact fun h => h H92.out), dif_pos HLT1.out, if_neg (by rw [← HD.out]; exact HA.out), if_pos ⟨by rw [← HD.out]; exact h110, H39.out⟩])⟩; clear h110
                    go_wp2_with (at_builtin; refine wpList_append_own _ rfl _ _ 132 rfl W.heap.size 5 i0 (.int .u8 0) 1 1 Try.underlying132 hi hz0 hz1 hz2 rfl (by decide) _ _ _ rfl (HO.out.alloc _) ⟨we.heap.size, 0, none⟩ 1 1 [.int .u8 10] rfl rfl (cell_new1 _ _ _) (by simp [Value.oneCell']) (by have := HN8.out; simp only [maxLen]; omega) (by have := HN8.out; omega) (by have := HF.out.size; simp; omega) ?_; intro v' w5 hown5 hgrow5 _; have HOW5 := Aside0.mk hown5; have HFR5 := Aside0.mk (fr_row (fr_new HF.out _) hgrow5 (fun k hk => (HO.out.lt k hk).1)); have HPZ5 := Aside0.mk (Pz.grown (Pz.newer HP.out ((Below.refl _ _).alloc (Nat.le_refl _) _)) hgrow5 (own_neG HO.out (by decide) HP.out)); have d1 := HPZ5.out.cells.2.1; have df1 := HPZ5.out.fz 1; have dgl : g < w5.heap.size := (Array.getElem?_eq_some_iff.1 HPZ5.out).1; clear hown5 hgrow5)
                    go_roundg g'
                    case measure => have := HGK.out; omega
                    case rel =>
                      refine ⟨q + 2, acc ++ [10], by have := HLT1.out; omega, by have := HAL.out; simp; omega, by have := HGK.out; have := HLT.out; omega, HRD, ⟨?_⟩, ⟨?_⟩, ⟨fr_grown HFR5.out (grown_set _ g 1 _)⟩⟩
                      · have h5 := HPZ5.out.setAt ((q : Int) + 1 + 1); rw [show (((q + 2 : Nat) : Int)) = (q : Int) + 1 + 1 by omega]; exact h5
                      · rw [byteCells_snoc1, List.length_append, List.length_singleton]; exact own_farG HOW5.out g 1 _ (own_neG HOW5.out (by decide) HPZ5.out)
                  · have k4 : ((d.toNat : Int) == 110) = false := by simp; omega
                    have H110 := Aside0.mk h110; clear h110
                    by_cases h116 : d.toNat = 116
                    · have k5 : ((d.toNat : Int) == 116) = true := by simp; omega
                      have HRD : Aside0 (R = quoS s q0 (q + 2) (acc ++ [9])) := ⟨by rw [HR.out]; exact quoS_more (by unfold quoR; rw [dif_pos HLT.out, if_neg (by rw [← HB.out]; exact HN0.out), if_neg (by rw [← HB.out]; exact HLO.out), if_neg (by rw [← HB.out]; exact fun h => h H92.out), dif_pos HLT1.out, if_neg (by rw [← HD.out]; exact HA.out), if_neg (fun h => H110.out (by rw [HD.out]; exact h.1)), if_pos ⟨by rw [← HD.out]; exact h116, H39.out⟩])⟩; clear h116
                      go_wp2_with (at_builtin; refine wpList_append_own _ rfl _ _ 132 rfl W.heap.size 5 i0 (.int .u8 0) 1 1 Try.underlying132 hi hz0 hz1 hz2 rfl (by decide) _ _ _ rfl (HO.out.alloc _) ⟨we.heap.size, 0, none⟩ 1 1 [.int .u8 9] rfl rfl (cell_new1 _ _ _) (by simp [Value.oneCell']) (by have := HN8.out; simp only [maxLen]; omega) (by have := HN8.out; omega) (by have := HF.out.size; simp; omega) ?_; intro v' w5 hown5 hgrow5 _; have HOW5 := Aside0.mk hown5; have HFR5 := Aside0.mk (fr_row (fr_new HF.out _) hgrow5 (fun k hk => (HO.out.lt k hk).1)); have HPZ5 := Aside0.mk (Pz.grown (Pz.newer HP.out ((Below.refl _ _).alloc (Nat.le_refl _) _)) hgrow5 (own_neG HO.out (by decide) HP.out)); have d1 := HPZ5.out.cells.2.1; have df1 := HPZ5.out.fz 1; have dgl : g < w5.heap.size := (Array.getElem?_eq_some_iff.1 HPZ5.out).1; clear hown5 hgrow5)
                      go_roundg g'
                      case measure => have := HGK.out; omega
                      case rel =>
                        refine ⟨q + 2, acc ++ [9], by have := HLT1.out; omega, by have := HAL.out; simp; omega, by have := HGK.out; have := HLT.out; omega, HRD, ⟨?_⟩, ⟨?_⟩, ⟨fr_grown HFR5.out (grown_set _ g 1 _)⟩⟩
                        · have h5 := HPZ5.out.setAt ((q : Int) + 1 + 1); rw [show (((q + 2 : Nat) : Int)) = (q : Int) + 1 + 1 by omega]; exact h5
                        · rw [byteCells_snoc1, List.length_append, List.length_singleton]; exact own_farG HOW5.out g 1 _ (own_neG HOW5.out (by decide) HPZ5.out)
                    · have k5 : ((d.toNat : Int) == 116) = false := by simp; omega
                      have H116 := Aside0.mk h116; clear h116
                      by_cases h120 : d.toNat = 120
                      · have k6 : ((d.toNat : Int) == 120) = true := by simp; omega
                        have H120 := Aside0.mk h120; clear h120
                        have hw7 : IntKind.i64.wrap ((q : Int) + 1 + 2) = (q : Int) + 1 + 2 := by have := HS.out; rw [i64_w]; rw [wrap64_id (by omega) (by omega)]
                        have hw8 : IntKind.i64.wrap ((q : Int) + 1 + 2 + 1) = (q : Int) + 1 + 2 + 1 := by have := HS.out; rw [i64_w]; rw [wrap64_id (by omega) (by omega)]
                        by_cases hlt3 : q + 3 < s.size
                        · have k7 : decide ((q : Int) + 1 + 2 ≥ (s.size : Int)) = false := decide_eq_false (by omega)
                          have hlt2 : q + 2 < s.size := by omega
                          have hq4 : (q : Int) + 1 + 1 < (s.size : Int) := by omega
                          have hq5 : (q : Int) + 1 + 2 < (s.size : Int) := by omega
                          have hq6 : (0 : Int) ≤ (q : Int) + 1 + 1 := by omega
                          have hq7 : (0 : Int) ≤ (q : Int) + 1 + 2 := by omega
                          obtain ⟨b2, hb2⟩ : ∃ d, d = s[q + 2]'hlt2 := ⟨_, rfl⟩; obtain ⟨b3, hb3⟩ : ∃ d, d = s[q + 3]'hlt3 := ⟨_, rfl⟩; have hlt2' : q + 1 + 1 < s.size := hlt2; have hlt3' : q + 1 + 2 < s.size := hlt3
                          have hb2t : ((s[q + 1 + 1]'hlt2').toNat : Int) = (b2.toNat : Int) := by rw [hb2]
                          have ht2 : ((q : Int) + 1 + 1).toNat = q + 1 + 1 := by omega
                          have ht3 : ((q : Int) + 1 + 2).toNat = q + 1 + 2 := by omega
                          have hb3t : ((s[q + 1 + 2]'hlt3').toNat : Int) = (b3.toNat : Int) := by rw [hb3]
                          have HB2 := Aside0.mk hb2; have HB3 := Aside0.mk hb3; have HLT3 := Aside0.mk hlt3; have HH : Aside0 (∀ (b : UInt8) (w : World), Calls Try.prog 187 #[.int .u8 (b.toNat : Int)] w fun e w' => e = .returned (.int .i64 (hexV b)) ∧ ∃ n, w' = w.drewN n) := ⟨fun b w => (term_hexadecimal.calls 5 _ _ w (hexv_at b)).mono (fun _ _ h => ⟨h.1, (by obtain ⟨n, hn⟩ := h.2; exact ⟨n, hn⟩)⟩)⟩; have x1 : hexV b2 ≤ 15 := (hexV_range b2).2; have x2 : hexV b3 ≤ 15 := (hexV_range b3).2; have HX := Aside0.mk (And.intro (hexV_range b2) (hexV_range b3)); clear hb2 hb3
                          go_wp2_with fail
                          go_quiet (fail)
                          have hp_ := HP.out.drewN (n := nq); have ho_ := own_drewN (k := nq) HO.out; have hf_ := fr_drewN (n := nq) HF.out; clear HP HO HF; obtain ⟨wf, hwz⟩ : ∃ wz, wz = we.drewN nq := ⟨_, rfl⟩; rw [← hwz] at hp_ ho_ hf_ ⊢; clear hwz; have HP := Aside0.mk hp_; have HO := Aside0.mk ho_; have HF := Aside0.mk hf_; clear hp_ ho_ hf_ c0 c1 c2 c3 c4 f1; obtain ⟨c0, c1, c2, c3, c4⟩ := HP.out.cells; have f1 := HP.out.fz 1
                          go_wp2_with fail
                          go_quiet (first | (go_at_call 187; exact Calls.quiet_of (HH.out _ _)))
                          have hp_ := HP.out.drewN (n := nq); have ho_ := own_drewN (k := nq) HO.out; have hf_ := fr_drewN (n := nq) HF.out; clear HP HO HF; obtain ⟨wh, hwz⟩ : ∃ wz, wz = wf.drewN nq := ⟨_, rfl⟩; rw [← hwz] at hp_ ho_ hf_ ⊢; clear hwz; have HP := Aside0.mk hp_; have HO := Aside0.mk ho_; have HF := Aside0.mk hf_; clear hp_ ho_ hf_ c0 c1 c2 c3 c4 f1; obtain ⟨c0, c1, c2, c3, c4⟩ := HP.out.cells; have f1 := HP.out.fz 1; have hgh : g < wh.heap.size := (Array.getElem?_eq_some_iff.1 HP.out).1; obtain ⟨v2, hv2⟩ : ∃ v, v = hexV b2 := ⟨_, rfl⟩; obtain ⟨v3, hv3⟩ : ∃ v, v = hexV b3 := ⟨_, rfl⟩; rw [← hv2, ← hv3] at HX ⊢; rw [← hv2] at x1; rw [← hv3] at x2; have HV2 := Aside0.mk hv2; have HV3 := Aside0.mk hv3; clear hv2 hv3
                          by_cases hbad : v2 < 0 ∨ v3 < 0
                          · have hbad_ := hbad; have HRD : Aside0 (R = (false, q + 1, some q, [])) := ⟨by rw [HR.out]; exact quoS_done (by unfold quoR; rw [dif_pos HLT.out, if_neg (by rw [← HB.out]; exact HN0.out), if_neg (by rw [← HB.out]; exact HLO.out), if_neg (by rw [← HB.out]; exact fun h => h H92.out), dif_pos HLT1.out, if_neg (by rw [← HD.out]; exact HA.out), if_neg (fun h => H110.out (by rw [HD.out]; exact h.1)), if_neg (fun h => H116.out (by rw [HD.out]; exact h.1)), if_pos ⟨by rw [← HD.out]; exact H120.out, H39.out⟩, dif_pos HLT3.out, if_pos (by rw [← HB2.out, ← HB3.out, ← HV2.out, ← HV3.out]; exact hbad)])⟩; have hcall := fail.calls g s (q + 1 : Nat) fault (q : Nat) vl vs wh HP.out; have HCALL := Aside0.mk hcall; clear hcall
                            by_cases hv0 : v2 < 0
                            · have r1 : decide (v2 < 0) = true := decide_eq_true hv0; clear hbad hbad_ hv0
                              go_wp2_with fail
                              refine HCALL.out.mono ?_; rintro e w2 ⟨rfl, hp, hg⟩; have HPe := Aside0.mk hp; have HFe := Aside0.mk (fr_grown HF.out hg); clear hp hg HCALL
                              go_wp2_with fail
                              go_ret2
                              rw [HRD.out]; exact ⟨_, rfl, HPe.out, by simpa [Lib.byteCells] using World.ownsRow_nil _ _ _ _, HFe.out⟩
                            · have r1 : decide (v2 < 0) = false := decide_eq_false hv0; have r2 : decide (v3 < 0) = true := decide_eq_true (hbad.resolve_left hv0); clear hbad hbad_ hv0
                              go_wp2_with fail
                              refine HCALL.out.mono ?_; rintro e w2 ⟨rfl, hp, hg⟩; have HPe := Aside0.mk hp; have HFe := Aside0.mk (fr_grown HF.out hg); clear hp hg HCALL
                              go_wp2_with fail
                              go_ret2
                              rw [HRD.out]; exact ⟨_, rfl, HPe.out, by simpa [Lib.byteCells] using World.ownsRow_nil _ _ _ _, HFe.out⟩
                          · have r1 : decide (v2 < 0) = false := decide_eq_false (fun h => hbad (.inl h)); have r2 : decide (v3 < 0) = false := decide_eq_false (fun h => hbad (.inr h))
                            have r3 : (0 : Int) ≤ v2 := by omega
                            have r4 : (0 : Int) ≤ v3 := by omega
                            have HRD : Aside0 (R = quoS s q0 (q + 4) (acc ++ [hexB v2 v3])) := ⟨by rw [HR.out]; exact quoS_more (by unfold quoR; rw [dif_pos HLT.out, if_neg (by rw [← HB.out]; exact HN0.out), if_neg (by rw [← HB.out]; exact HLO.out), if_neg (by rw [← HB.out]; exact fun h => h H92.out), dif_pos HLT1.out, if_neg (by rw [← HD.out]; exact HA.out), if_neg (fun h => H110.out (by rw [HD.out]; exact h.1)), if_neg (fun h => H116.out (by rw [HD.out]; exact h.1)), if_pos ⟨by rw [← HD.out]; exact H120.out, H39.out⟩, dif_pos HLT3.out, if_neg (by rw [← HB2.out, ← HB3.out, ← HV2.out, ← HV3.out]; exact hbad), ← HB2.out, ← HB3.out, ← HV2.out, ← HV3.out])⟩; have HXB := Aside0.mk (hexB_eq ⟨r3, x1⟩ ⟨r4, x2⟩); obtain ⟨hb, hhb⟩ : ∃ z : UInt8, z = hexB v2 v3 := ⟨_, rfl⟩; rw [← hhb] at HXB HRD; have hbits := HXB.out; clear hbad hhb
                            go_wp2_with (at_builtin; refine wpList_append_own _ rfl _ _ 132 rfl W.heap.size 5 i0 (.int .u8 0) 1 1 Try.underlying132 hi hz0 hz1 hz2 rfl (by decide) _ _ _ rfl (HO.out.alloc _) ⟨wh.heap.size, 0, none⟩ 1 1 [.int .u8 (hb.toNat : Int)] rfl rfl (cell_new1 _ _ _) (by simp [Value.oneCell']) (by have := HN8.out; simp only [maxLen]; omega) (by have := HN8.out; omega) (by have := HF.out.size; simp; omega) ?_; intro v' w5 hown5 hgrow5 _; have HOW5 := Aside0.mk hown5; have HFR5 := Aside0.mk (fr_row (fr_new HF.out _) hgrow5 (fun k hk => (HO.out.lt k hk).1)); have HPZ5 := Aside0.mk (Pz.grown (Pz.newer HP.out ((Below.refl _ _).alloc (Nat.le_refl _) _)) hgrow5 (own_neG HO.out (by decide) HP.out)); have d1 := HPZ5.out.cells.2.1; have df1 := HPZ5.out.fz 1; have dgl : g < w5.heap.size := (Array.getElem?_eq_some_iff.1 HPZ5.out).1; clear hown5 hgrow5)
                            go_roundg g'
                            case measure => have := HGK.out; omega
                            case rel =>
                              refine ⟨q + 4, acc ++ [hb], by have := HLT3.out; omega, by have := HAL.out; simp; omega, by have := HGK.out; have := HLT.out; omega, HRD, ⟨?_⟩, ⟨?_⟩, ⟨fr_grown (fr_grown HFR5.out (grown_set _ g 1 _)) (grown_set _ g 1 _)⟩⟩
                              · have h5 := (HPZ5.out.setAt ((q : Int) + 1 + 2)).setAt ((q : Int) + 1 + 2 + 1); rw [show (((q + 4 : Nat) : Int)) = (q : Int) + 1 + 2 + 1 by omega]; exact h5
                              · rw [byteCells_snoc1, List.length_append, List.length_singleton]; have n1 := own_neG HOW5.out (by decide) HPZ5.out; exact own_farG (own_farG HOW5.out g 1 _ n1) g 1 _ n1
                        · have k7 : decide ((q : Int) + 1 + 2 ≥ (s.size : Int)) = true := decide_eq_true (by omega); have HLT3 := Aside0.mk hlt3; clear hlt3
                          go_wp2_with fail
                          go_quiet (fail)
                          have hp_ := HP.out.drewN (n := nq); have ho_ := own_drewN (k := nq) HO.out; have hf_ := fr_drewN (n := nq) HF.out; clear HP HO HF; obtain ⟨wf, hwz⟩ : ∃ wz, wz = we.drewN nq := ⟨_, rfl⟩; rw [← hwz] at hp_ ho_ hf_ ⊢; clear hwz; have HP := Aside0.mk hp_; have HO := Aside0.mk ho_; have HF := Aside0.mk hf_; clear hp_ ho_ hf_ c0 c1 c2 c3 c4 f1; obtain ⟨c0, c1, c2, c3, c4⟩ := HP.out.cells; have f1 := HP.out.fz 1; have HRD : Aside0 (R = (false, q + 1, some q, [])) := ⟨by rw [HR.out]; exact quoS_done (by unfold quoR; rw [dif_pos HLT.out, if_neg (by rw [← HB.out]; exact HN0.out), if_neg (by rw [← HB.out]; exact HLO.out), if_neg (by rw [← HB.out]; exact fun h => h H92.out), dif_pos HLT1.out, if_neg (by rw [← HD.out]; exact HA.out), if_neg (fun h => H110.out (by rw [HD.out]; exact h.1)), if_neg (fun h => H116.out (by rw [HD.out]; exact h.1)), if_pos ⟨by rw [← HD.out]; exact H120.out, H39.out⟩, dif_neg HLT3.out])⟩; have hcall := fail.calls g s (q + 1 : Nat) fault (q : Nat) vl vs wf HP.out; have HCALL := Aside0.mk hcall; clear hcall
                          go_wp2_with fail
                          refine HCALL.out.mono ?_; rintro e w2 ⟨rfl, hp, hg⟩; have HPe := Aside0.mk hp; have HFe := Aside0.mk (fr_grown HF.out hg); clear hp hg HCALL
                          go_wp2_with fail
                          go_ret2
                          rw [HRD.out]; exact ⟨_, rfl, HPe.out, by simpa [Lib.byteCells] using World.ownsRow_nil _ _ _ _, HFe.out⟩
                      · have k6 : ((d.toNat : Int) == 120) = false := by simp; omega
                        have HRD : Aside0 (R = (false, q + 1, some q, [])) := ⟨by rw [HR.out]; exact quoS_done (by unfold quoR; rw [dif_pos HLT.out, if_neg (by rw [← HB.out]; exact HN0.out), if_neg (by rw [← HB.out]; exact HLO.out), if_neg (by rw [← HB.out]; exact fun h => h H92.out), dif_pos HLT1.out, if_neg (by rw [← HD.out]; exact HA.out), if_neg (fun h => H110.out (by rw [HD.out]; exact h.1)), if_neg (fun h => H116.out (by rw [HD.out]; exact h.1)), if_neg (fun h => h120 (by rw [HD.out]; exact h.1))])⟩; have hcall := fail.calls g s (q + 1 : Nat) fault (q : Nat) vl vs we HP.out; have HCALL := Aside0.mk hcall; clear hcall; clear h120
                        go_wp2_with fail
                        refine HCALL.out.mono ?_; rintro e w2 ⟨rfl, hp, hg⟩; have HPe := Aside0.mk hp; have HFe := Aside0.mk (fr_grown HF.out hg); clear hp hg HCALL
                        go_wp2_with fail
                        go_ret2
                        rw [HRD.out]; exact ⟨_, rfl, HPe.out, by simpa [Lib.byteCells] using World.ownsRow_nil _ _ _ _, HFe.out⟩
                · have k3 : ((q0.toNat : Int) == 39) = false := by simp; omega
                  have HRD : Aside0 (R = (false, q + 1, some q, [])) := ⟨by rw [HR.out]; exact quoS_done (by unfold quoR; rw [dif_pos HLT.out, if_neg (by rw [← HB.out]; exact HN0.out), if_neg (by rw [← HB.out]; exact HLO.out), if_neg (by rw [← HB.out]; exact fun h => h H92.out), dif_pos HLT1.out, if_neg (by rw [← HD.out]; exact HA.out), if_neg (fun h => hq39 h.2), if_neg (fun h => hq39 h.2), if_neg (fun h => hq39 h.2)])⟩; have hcall := fail.calls g s (q + 1 : Nat) fault (q : Nat) vl vs we HP.out; have HCALL := Aside0.mk hcall; clear hcall; clear hq39; have k4 : ∃ v, ((d.toNat : Int) == 110) = v := ⟨_, rfl⟩; have k5 : ∃ v, ((d.toNat : Int) == 116) = v := ⟨_, rfl⟩; have k6 : ∃ v, ((d.toNat : Int) == 120) = v := ⟨_, rfl⟩; obtain ⟨v4, k4⟩ := k4; obtain ⟨v5, k5⟩ := k5; obtain ⟨v6, k6⟩ := k6
                  cases v4 <;> cases v5 <;> cases v6
                  all_goals
                    go_wp2_with fail
                    refine HCALL.out.mono ?_; rintro e w2 ⟨rfl, hp, hg⟩; have HPe := Aside0.mk hp; have HFe := Aside0.mk (fr_grown HF.out hg); clear hp hg HCALL
                    go_wp2_with fail
                    go_ret2
                    rw [HRD.out]; exact ⟨_, rfl, HPe.out, by simpa [Lib.byteCells] using World.ownsRow_nil _ _ _ _, HFe.out⟩
            · have e1' : (((q : Int) + 1) == (s.size : Int)) = true := by simp; omega
              have e1'' : (((q + 1 : Nat) : Int) == (s.size : Int)) = true := by simp; omega
              go_wp2_with fail
              go_quiet (fail)
              have hp_ := HP.out.drewN (n := nq); have ho_ := own_drewN (k := nq) HO.out; have hf_ := fr_drewN (n := nq) HF.out; clear HP HO HF; obtain ⟨wd, hwz⟩ : ∃ wz, wz = wc.drewN nq := ⟨_, rfl⟩; rw [← hwz] at hp_ ho_ hf_ ⊢; clear hwz; have HP := Aside0.mk hp_; have HO := Aside0.mk ho_; have HF := Aside0.mk hf_; clear hp_ ho_ hf_ c0 c1 c2 c3 c4 f1; obtain ⟨c0, c1, c2, c3, c4⟩ := HP.out.cells; have f1 := HP.out.fz 1; have HRD : Aside0 (R = (false, q + 1, some q, [])) := ⟨by rw [HR.out]; exact quoS_done (by unfold quoR; rw [dif_pos HLT.out, if_neg (by rw [← HB.out]; exact HN0.out), if_neg (by rw [← HB.out]; exact HLO.out), if_neg (by rw [← HB.out]; exact fun h => h H92.out), dif_neg hlt1])⟩; have hcall := fail.calls g s (q + 1 : Nat) fault (q : Nat) vl vs wd HP.out; have HCALL := Aside0.mk hcall; clear hcall; clear hlt1
              go_wp2_with fail
              refine HCALL.out.mono ?_; rintro e w2 ⟨rfl, hp, hg⟩; have HPe := Aside0.mk hp; have HFe := Aside0.mk (fr_grown HF.out hg); clear hp hg HCALL
              go_wp2_with fail
              go_ret2
              rw [HRD.out]; exact ⟨_, rfl, HPe.out, by simpa [Lib.byteCells] using World.ownsRow_nil _ _ _ _, HFe.out⟩
          · have e92 : ((b.toNat : Int) != 92) = true := by simp; omega
            have HRD : Aside0 (R = quoS s q0 (q + 1) (acc ++ [b])) := ⟨by rw [HR.out]; exact quoS_more (by unfold quoR; rw [dif_pos HLT.out, if_neg (by rw [← HB.out]; exact HN0.out), if_neg (by rw [← HB.out]; exact HLO.out), if_pos (by rw [← HB.out]; exact h92), ← HB.out])⟩; clear h92
            go_wp2_with (at_builtin; refine wpList_append_own _ rfl _ _ 132 rfl W.heap.size 5 i0 (.int .u8 0) 1 1 Try.underlying132 hi hz0 hz1 hz2 rfl (by decide) _ _ _ rfl (HO.out.alloc _) ⟨wb.heap.size, 0, none⟩ 1 1 [.int .u8 (b.toNat : Int)] rfl rfl (cell_new1 _ _ _) (by simp [Value.oneCell']) (by have := HN8.out; simp only [maxLen]; omega) (by have := HN8.out; omega) (by have := HF.out.size; simp; omega) ?_; intro v' w5 hown5 hgrow5 _; have HOW5 := Aside0.mk hown5; have HFR5 := Aside0.mk (fr_row (fr_new HF.out _) hgrow5 (fun k hk => (HO.out.lt k hk).1)); have HPZ5 := Aside0.mk (Pz.grown (Pz.newer HP.out ((Below.refl _ _).alloc (Nat.le_refl _) _)) hgrow5 (own_neG HO.out (by decide) HP.out)); have d1 := HPZ5.out.cells.2.1; have df1 := HPZ5.out.fz 1; have dgl : g < w5.heap.size := (Array.getElem?_eq_some_iff.1 HPZ5.out).1; clear hown5 hgrow5)
            go_roundg g'
            case measure => have := HGK.out; omega
            case rel =>
              refine ⟨q + 1, acc ++ [b], by have := HLT.out; omega, by have := HAL.out; simp; omega, by have := HGK.out; have := HLT.out; omega, HRD, ⟨?_⟩, ⟨?_⟩, ⟨fr_grown HFR5.out (grown_set _ g 1 _)⟩⟩
              · exact HPZ5.out.setAt ((q : Int) + 1)
              · rw [byteCells_snoc1, List.length_append, List.length_singleton]; exact own_farG HOW5.out g 1 _ (own_neG HOW5.out (by decide) HPZ5.out)
    · have hqe : q = s.size := by have := HQS.out; omega
      have e1 : decide ((q : Int) < (s.size : Int)) = false := decide_eq_false (by omega); have e1n : decide (q < s.size) = false := decide_eq_false hlt; have HRD : Aside0 (R = (false, q, some s.size, [])) := ⟨by rw [HR.out]; exact quoS_done (by unfold quoR; rw [dif_neg hlt])⟩; clear hlt hs8 hqe
      go_wp2_with fail
      go_quiet (fail)
      have hp_ := HP.out.drewN (n := nq); have ho_ := own_drewN (k := nq) HO.out; have hf_ := fr_drewN (n := nq) HF.out; clear HP HO HF; obtain ⟨wa, hwz⟩ : ∃ wz, wz = wr.drewN nq := ⟨_, rfl⟩; rw [← hwz] at hp_ ho_ hf_ ⊢; clear hwz; have HP := Aside0.mk hp_; have HO := Aside0.mk ho_; have HF := Aside0.mk hf_; clear hp_ ho_ hf_ c0 c1 c2 c3 c4 f1; obtain ⟨c0, c1, c2, c3, c4⟩ := HP.out.cells; have f1 := HP.out.fz 1; have hcall := fail.calls g s (q : Nat) fault (s.size : Nat) vl vs wa HP.out; have HCALL := Aside0.mk hcall; clear hcall
      go_wp2_with fail
      refine HCALL.out.mono ?_; rintro e w2 ⟨rfl, hp, hg⟩; have HPe := Aside0.mk hp; have HFe := Aside0.mk (fr_grown HF.out hg); clear hp hg HCALL
      go_wp2_with fail
      go_ret2
      rw [HRD.out]; exact ⟨_, rfl, HPe.out, by simpa [Lib.byteCells] using World.ownsRow_nil _ _ _ _, HFe.out⟩
end Go.Proofs.Ytjhjhhibbmligaa.TE
end
