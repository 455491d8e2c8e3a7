-- written by wip/tools/myprint.py (the kit's print over this seat, hand-made contracts among its own)
import Derived.Test.YtdbjjaodkapikaaProg
import Derived.Below
import Derived.Deep.Draws
import Derived.Deep.AppendLies
import Derived.Maps.AppendAt
import Derived.OwnWalk
import Derived.Laws.BytesArg
import Derived.Laws.MakeOwn
import Derived.Laws.OwnMore
import Derived.Deep.OwnRows
import Derived.Tactics
import Derived.Lib.ConvBytes
import Derived.Laws.Slices
import Derived.WalkKit
import Derived.KernelRfl
import Derived.RowKit3
import Derived.Deep.LoopGhost
import Derived.Deep.QuietTactic
import Derived.BigQuiet
import Derived.WideLaws
import Derived.Deep.DeepCutAuto
import Derived.Deep.CutBlock
import Derived.Deep.RegionHeld3
import Derived.Laws.Rows
import Derived.Lib.AppendStr
import Derived.ArgAppend
import Derived.Laws.IdiomCopy
import Derived.OrdersHeld
import Derived.Laws.BitsLemmas
import Derived.RowKit
import Derived.Lib.BufferMore
import Derived.Maps.RangeRun
import Derived.WalkSpells
import Derived.Shelf.GgClosure.StringsIndexFunc
import Derived.RangeFuncNested
import Derived.RangeFuncBound
import Derived.RangeFuncCalls
import Derived.RangeFuncLeaves
import Derived.Shelf.Abstract
import Derived.OwnWalkIn
import Derived.TacticsInMore
import Derived.LoopNIn
import Derived.LoopIn
import Derived.Laws.EntriesVeiled
import Derived.MapKept
import Derived.Test.YtdbjjaodkapikaaHand
import Derived.Test.YtdbjjaodkapikaaWWords
import Derived.Test.YtdbjjaodkapikaaWLast
import Derived.Test.YtdbjjaodkapikaaWTab
import Derived.Test.YtdbjjaodkapikaaWFour
import Derived.Test.YtdbjjaodkapikaaWQPut
import Derived.Test.YtdbjjaodkapikaaWApart
import Derived.Test.YtdbjjaodkapikaaWArr
import Derived.Test.YtdbjjaodkapikaaWZeros
import Derived.Test.YtdbjjaodkapikaaWFoot
import Derived.Test.YtdbjjaodkapikaaWKept
import Derived.Test.YtdbjjaodkapikaaWShare
import Derived.Test.YtdbjjaodkapikaaWN
import Derived.Test.YtdbjjaodkapikaaWFootNe
import Derived.Test.YtdbjjaodkapikaaWAt
import Derived.Test.YtdbjjaodkapikaaWEqStruct
import Derived.Test.YtdbjjaodkapikaaWRepsOne
import Derived.Test.YtdbjjaodkapikaaWInv
import Derived.Test.YtdbjjaodkapikaaWInvWords
import Derived.Test.YtdbjjaodkapikaaWGuard
import Derived.Test.YtdbjjaodkapikaaWNEv
import Derived.Test.YtdbjjaodkapikaaWMore
namespace Go.Proofs.Ytdbjjaodkapikaa.TE
open Go.RowKit Go.Proofs.YtdbjjaodkapikaaW.PrintWords Go.Proofs.YtdbjjaodkapikaaW.PrintLast Go.Proofs.YtdbjjaodkapikaaW.PrintMore
attribute [local go_sem] max2_int min2_int max_two min_two max_three min_three max_four min_four   -- for this text's walks alone
set_option linter.unusedVariables false
set_option linter.unusedSimpArgs false



def errW : Option Int → Value
  | none => .nilIface
  | some c => .iface 0 (.int .i64 c)
theorem errW_none : errW none = .nilIface := rfl
theorem errW_some (c : Int) : errW (some c) = .iface 0 (.int .i64 c) := rfl

theorem info5 : (Try.prog.info? 5).map (fun i => (i.zero, i.size, i.bytes)) = some (some (.int .u8 0), 1, 1) := by kernel_rfl
theorem info9 : (Try.prog.info? 9).map (fun i => (i.zero, i.size, i.bytes)) = some (some (.string ⟨#[]⟩), 1, 16) := by kernel_rfl
theorem info42 : (Try.prog.info? 42).map (fun i => (i.zero, i.size, i.bytes)) = some (some (.agg #[(.int .i64 0), (.string ⟨#[]⟩), (.slice none 0 0)]), 3, 48) := by kernel_rfl
-- the values' own types
/-! #### struct type 42, nested in itself -/
structure S42 where
  f0 : Int
  f1 : ByteArray
  f2 : (List S42)
def z42 : S42 := ⟨(0 : Int), (⟨#[]⟩ : ByteArray), ([] : List S42)⟩
def F42 (d : Kd S42) : Kd S42 := Kd.iso (Kd.pair (Kd.int .i64) (Kd.pair Kd.string (Kd.slice 42 d))) (fun x : S42 => (x.f0, x.f1, x.f2))
theorem mono42 : Kd.Mono F42 := Kd.mono_iso _ (Kd.mono_pair (Kd.mono_const _) (Kd.mono_pair (Kd.mono_const _) (Kd.mono_slice 42 Kd.mono_id)))
theorem sub42 : Kd.Sub F42 [42] := Kd.sub_iso _ (Kd.sub_pair (Kd.sub_const _ (by decide)) (Kd.sub_pair (Kd.sub_const _ (by decide)) (Kd.sub_slice 42 (by decide) Kd.sub_id)))
theorem sz42 : ∀ n, (Kd.upto F42 3 [42] n).sz = 3 := Kd.upto_sz (fun _ => rfl)
def k42 : Kd S42 := Kd.fix F42 3 [42] sz42 (Kd.upto_E sub42)
theorem k42_heap : Kd.Heap k42 := Kd.heap_fix (fun _ h_ => Kd.heap_iso _ (Kd.heap_pair (Kd.heap_int .i64) (Kd.heap_pair Kd.heap_string (Kd.heap_slice 42 h_))))
theorem k42_open {w : World} {x : S42} {cs : List Value} (h : k42.K w x cs) : ∃ A2 c2, cs = [.int .i64 x.f0, .string x.f1, .slice A2 x.f2.length c2] ∧ x.f2.length ≤ c2 ∧ k42.C w A2 x.f2.length x.f2 := by
  obtain ⟨n, h⟩ := h
  cases n with
  | zero => exact h.elim
  | succ n =>
    obtain ⟨_, _, rfl, rfl, ⟨_, _, rfl, rfl, ⟨A2, c2, rfl, l2, g2⟩⟩⟩ := h
    exact ⟨A2, c2, rfl, l2, Kd.fix_C g2⟩
theorem k42_openM {w : World} {base : Nat} {ok : Nat → Prop} {x : S42} {cs : List Value} (h : k42.M w base ok x cs) : ∃ v2, cs = [.int .i64 x.f0, .string x.f1, v2] ∧ k42.R 42 w base ok v2 x.f2 := by
  obtain ⟨n, h⟩ := h
  cases n with
  | zero => exact h.elim
  | succ n =>
    obtain ⟨_, _, rfl, rfl, ⟨_, _, rfl, rfl, ⟨v2, rfl, g2⟩⟩⟩ := h
    exact ⟨v2, rfl, Kd.fix_R g2⟩
theorem k42_mk (w : World) (x : S42) {A2 : Option Addr} {c2 : Nat} (l2 : x.f2.length ≤ c2) (g2 : k42.C w A2 x.f2.length x.f2) : k42.K w x [.int .i64 x.f0, .string x.f1, .slice A2 x.f2.length c2] := by
  obtain ⟨n2, q2⟩ := Kd.fix_C_back mono42 g2
  have r2 := Kd.upto_C_le mono42 sz42 (show n2 ≤ n2 by omega) q2
  exact ⟨n2 + 1, ⟨[.int .i64 x.f0], [.string x.f1, .slice A2 x.f2.length c2], rfl, rfl, ⟨[.string x.f1], [.slice A2 x.f2.length c2], rfl, rfl, ⟨A2, c2, rfl, l2, r2⟩⟩⟩⟩
theorem k42_mkM (w : World) (base : Nat) (ok : Nat → Prop) (x : S42) {v2 : Value} (g2 : k42.R 42 w base ok v2 x.f2) : k42.M w base ok x [.int .i64 x.f0, .string x.f1, v2] := by
  obtain ⟨n2, q2⟩ := Kd.fix_R_back mono42 g2
  have r2 := Kd.upto_R_le mono42 sz42 (show n2 ≤ n2 by omega) q2
  exact ⟨n2 + 1, ⟨[.int .i64 x.f0], [.string x.f1, v2], rfl, rfl, ⟨[.string x.f1], [v2], rfl, rfl, ⟨v2, rfl, r2⟩⟩⟩⟩
theorem k42_openF {W : World} {ok : Nat → Prop} {x : S42} {cs : List Value} (h : Kd.FK k42 W ok x cs) : ∃ A2 c2, cs = [.int .i64 x.f0, .string x.f1, .slice A2 x.f2.length c2] ∧ x.f2.length ≤ c2 ∧ Kd.F k42 W ok A2 x.f2.length x.f2 := by
  obtain ⟨A2, c2, rfl, l2, _⟩ := k42_open (Kd.FK_now h)
  exact ⟨A2, c2, rfl, l2, (fun W' hW => by obtain ⟨A2_, c2_, he, l2_, g2_⟩ := k42_open (h W' hW); injection (Option.some.inj (show some (Value.slice A2 x.f2.length c2) = some (Value.slice A2_ x.f2.length c2_) from congrArg (fun l => l[2]?) he)) with ha_ _ _; rw [ha_]; exact g2_)⟩
theorem k42_mkF (W : World) (ok : Nat → Prop) (x : S42) {A2 : Option Addr} {c2 : Nat} (l2 : x.f2.length ≤ c2) (g2 : Kd.F k42 W ok A2 x.f2.length x.f2) : Kd.FK k42 W ok x [.int .i64 x.f0, .string x.f1, .slice A2 x.f2.length c2] := fun W2 hW => k42_mk W2 x l2 (g2 W2 hW)
def rd_T42 (xs : List S42) (i : Int) : S42 := xs.getD i.toNat z42
theorem at_T42 {w : World} {A : Option Addr} {n : Nat} {xs : List S42} (h : Kd.C k42 w A n xs) (i : Int) (h0 : 0 ≤ i) (h1 : i < n) : ∃ ad A2 c2, A = some ad ∧ w.cell? (ad.add (i.toNat * 3)) = some (.int .i64 (rd_T42 xs i).f0) ∧ w.cell? ⟨(ad.add (i.toNat * 3)).block, (ad.add (i.toNat * 3)).off + 1, none⟩ = some (.string (rd_T42 xs i).f1) ∧ w.cell? ⟨(ad.add (i.toNat * 3)).block, (ad.add (i.toNat * 3)).off + 2, none⟩ = some (.slice A2 (rd_T42 xs i).f2.length c2) ∧ (rd_T42 xs i).f2.length ≤ c2 ∧ k42.C w A2 (rd_T42 xs i).f2.length (rd_T42 xs i).f2 := by
  obtain ⟨ad, c, e, _, hK, hc0⟩ := Kd.C_get h z42 i h0 h1
  have hc : ∀ j u, c[j]? = some u → w.cell? (ad.add (i.toNat * 3 + j)) = some u := hc0
  obtain ⟨A2, c2, rfl, l2, g2⟩ := k42_open hK
  exact ⟨ad, A2, c2, e, hc 0 _ rfl, by rw [← add_field _ _ 1 (by omega)]; exact hc 1 _ rfl, by rw [← add_field _ _ 2 (by omega)]; exact hc 2 _ rfl, l2, g2⟩

def rd_L3 (xs : List (List S42)) (i : Int) : (List S42) := xs.getD i.toNat ([] : List S42)
theorem at_L3 {w : World} {A : Option Addr} {n : Nat} {xs : List (List S42)} (h : Kd.C (Kd.slice 42 k42) w A n xs) (i : Int) (h0 : 0 ≤ i) (h1 : i < n) : ∃ ad A0 c0, A = some ad ∧ w.cell? (ad.add i.toNat) = some (.slice A0 (rd_L3 xs i).length c0) ∧ (rd_L3 xs i).length ≤ c0 ∧ k42.C w A0 (rd_L3 xs i).length (rd_L3 xs i) := by
  obtain ⟨ad, c, e, _, hK, hc0⟩ := Kd.C_get h ([] : List S42) i h0 h1
  have hc : ∀ j u, c[j]? = some u → w.cell? (ad.add (i.toNat * 1 + j)) = some u := hc0
  obtain ⟨A0, c0, rfl, l0, g0⟩ := hK
  exact ⟨ad, A0, c0, e, by have hq := hc 0 _ rfl; rwa [Nat.mul_one, Nat.add_zero] at hq, l0, g0⟩

/-! #### struct type 122 -/
structure S122 where
  f0 : (List S42)
  f1 : S42
def z122 : S122 := ⟨([] : List S42), z42⟩
def k122 : Kd S122 := Kd.iso (Kd.pair (Kd.slice 42 k42) k42) (fun x : S122 => (x.f0, x.f1))
theorem k122_heap : Kd.Heap k122 := Kd.heap_iso _ (Kd.heap_pair (Kd.heap_slice 42 k42_heap) k42_heap)
theorem k122_open {w : World} {x : S122} {cs : List Value} (h : k122.K w x cs) : ∃ A0 c0 A3 c3, cs = [.slice A0 x.f0.length c0, .int .i64 x.f1.f0, .string x.f1.f1, .slice A3 x.f1.f2.length c3] ∧ x.f0.length ≤ c0 ∧ k42.C w A0 x.f0.length x.f0 ∧ x.f1.f2.length ≤ c3 ∧ k42.C w A3 x.f1.f2.length x.f1.f2 := by
  obtain ⟨_, _, rfl, ⟨A0, c0, rfl, l0, g0⟩, s1⟩ := h
  obtain ⟨A3, c3, rfl, l3, g3⟩ := k42_open s1
  exact ⟨A0, c0, A3, c3, rfl, l0, g0, l3, g3⟩
theorem k122_openM {w : World} {base : Nat} {ok : Nat → Prop} {x : S122} {cs : List Value} (h : k122.M w base ok x cs) : ∃ v0 v3, cs = [v0, .int .i64 x.f1.f0, .string x.f1.f1, v3] ∧ k42.R 42 w base ok v0 x.f0 ∧ k42.R 42 w base ok v3 x.f1.f2 := by
  obtain ⟨_, _, rfl, ⟨v0, rfl, g0⟩, s1⟩ := h
  obtain ⟨v3, rfl, g3⟩ := k42_openM s1
  exact ⟨v0, v3, rfl, g0, g3⟩
theorem k122_mk (w : World) (x : S122) {A0 : Option Addr} {c0 : Nat} (l0 : x.f0.length ≤ c0) (g0 : k42.C w A0 x.f0.length x.f0) {A3 : Option Addr} {c3 : Nat} (l3 : x.f1.f2.length ≤ c3) (g3 : k42.C w A3 x.f1.f2.length x.f1.f2) : k122.K w x [.slice A0 x.f0.length c0, .int .i64 x.f1.f0, .string x.f1.f1, .slice A3 x.f1.f2.length c3] := ⟨[.slice A0 x.f0.length c0], [.int .i64 x.f1.f0, .string x.f1.f1, .slice A3 x.f1.f2.length c3], rfl, ⟨A0, c0, rfl, l0, g0⟩, (k42_mk w x.f1 l3 g3)⟩
theorem k122_mkM (w : World) (base : Nat) (ok : Nat → Prop) (x : S122) {v0 : Value} (g0 : k42.R 42 w base ok v0 x.f0) {v3 : Value} (g3 : k42.R 42 w base ok v3 x.f1.f2) : k122.M w base ok x [v0, .int .i64 x.f1.f0, .string x.f1.f1, v3] := ⟨[v0], [.int .i64 x.f1.f0, .string x.f1.f1, v3], rfl, ⟨v0, rfl, g0⟩, (k42_mkM w base ok x.f1 g3)⟩
theorem k122_openF {W : World} {ok : Nat → Prop} {x : S122} {cs : List Value} (h : Kd.FK k122 W ok x cs) : ∃ A0 c0 A3 c3, cs = [.slice A0 x.f0.length c0, .int .i64 x.f1.f0, .string x.f1.f1, .slice A3 x.f1.f2.length c3] ∧ x.f0.length ≤ c0 ∧ Kd.F k42 W ok A0 x.f0.length x.f0 ∧ x.f1.f2.length ≤ c3 ∧ Kd.F k42 W ok A3 x.f1.f2.length x.f1.f2 := by
  obtain ⟨A0, c0, A3, c3, rfl, l0, _, l3, _⟩ := k122_open (Kd.FK_now h)
  exact ⟨A0, c0, A3, c3, rfl, l0, (fun W' hW => by obtain ⟨A0_, c0_, A3_, c3_, he, l0_, g0_, l3_, g3_⟩ := k122_open (h W' hW); injection (Option.some.inj (show some (Value.slice A0 x.f0.length c0) = some (Value.slice A0_ x.f0.length c0_) from congrArg (fun l => l[0]?) he)) with ha_ _ _; rw [ha_]; exact g0_), l3, (fun W' hW => by obtain ⟨A0_, c0_, A3_, c3_, he, l0_, g0_, l3_, g3_⟩ := k122_open (h W' hW); injection (Option.some.inj (show some (Value.slice A3 x.f1.f2.length c3) = some (Value.slice A3_ x.f1.f2.length c3_) from congrArg (fun l => l[3]?) he)) with ha_ _ _; rw [ha_]; exact g3_)⟩
theorem k122_mkF (W : World) (ok : Nat → Prop) (x : S122) {A0 : Option Addr} {c0 : Nat} (l0 : x.f0.length ≤ c0) (g0 : Kd.F k42 W ok A0 x.f0.length x.f0) {A3 : Option Addr} {c3 : Nat} (l3 : x.f1.f2.length ≤ c3) (g3 : Kd.F k42 W ok A3 x.f1.f2.length x.f1.f2) : Kd.FK k122 W ok x [.slice A0 x.f0.length c0, .int .i64 x.f1.f0, .string x.f1.f1, .slice A3 x.f1.f2.length c3] := fun W2 hW => k122_mk W2 x l0 (g0 W2 hW) l3 (g3 W2 hW)
def rd_T122 (xs : List S122) (i : Int) : S122 := xs.getD i.toNat z122
theorem at_T122 {w : World} {A : Option Addr} {n : Nat} {xs : List S122} (h : Kd.C k122 w A n xs) (i : Int) (h0 : 0 ≤ i) (h1 : i < n) : ∃ ad A0 c0 A3 c3, A = some ad ∧ w.cell? (ad.add (i.toNat * 4)) = some (.slice A0 (rd_T122 xs i).f0.length c0) ∧ w.cell? ⟨(ad.add (i.toNat * 4)).block, (ad.add (i.toNat * 4)).off + 1, none⟩ = some (.int .i64 (rd_T122 xs i).f1.f0) ∧ w.cell? ⟨(ad.add (i.toNat * 4)).block, (ad.add (i.toNat * 4)).off + 2, none⟩ = some (.string (rd_T122 xs i).f1.f1) ∧ w.cell? ⟨(ad.add (i.toNat * 4)).block, (ad.add (i.toNat * 4)).off + 3, none⟩ = some (.slice A3 (rd_T122 xs i).f1.f2.length c3) ∧ (rd_T122 xs i).f0.length ≤ c0 ∧ k42.C w A0 (rd_T122 xs i).f0.length (rd_T122 xs i).f0 ∧ (rd_T122 xs i).f1.f2.length ≤ c3 ∧ k42.C w A3 (rd_T122 xs i).f1.f2.length (rd_T122 xs i).f1.f2 := by
  obtain ⟨ad, c, e, _, hK, hc0⟩ := Kd.C_get h z122 i h0 h1
  have hc : ∀ j u, c[j]? = some u → w.cell? (ad.add (i.toNat * 4 + j)) = some u := hc0
  obtain ⟨A0, c0, A3, c3, rfl, l0, g0, l3, g3⟩ := k122_open hK
  exact ⟨ad, A0, c0, A3, c3, e, hc 0 _ rfl, by rw [← add_field _ _ 1 (by omega)]; exact hc 1 _ rfl, by rw [← add_field _ _ 2 (by omega)]; exact hc 2 _ rfl, by rw [← add_field _ _ 3 (by omega)]; exact hc 3 _ rfl, l0, g0, l3, g3⟩

end Go.Proofs.Ytdbjjaodkapikaa.TE
