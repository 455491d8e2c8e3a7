/- Part of the walk: lemmas and printed functions that the claim uses (wip/tools/trim.py). -/
import Derived.Test.YtdbjjaodkapikaaProg
import Derived.Below
import Derived.Deep.Draws
import Derived.Deep.AppendLies
import Derived.Maps.AppendAt
import Derived.OwnWalk
import Derived.Laws.BytesArg
import Derived.Laws.MakeOwn
import Derived.Laws.OwnMore
import Derived.Deep.OwnRows
import Derived.Tactics
import Derived.Lib.ConvBytes
import Derived.Laws.Slices
import Derived.WalkKit
import Derived.KernelRfl
import Derived.RowKit3
import Derived.Deep.LoopGhost
import Derived.Deep.QuietTactic
import Derived.BigQuiet
import Derived.WideLaws
import Derived.Deep.DeepCutAuto
import Derived.Deep.CutBlock
import Derived.Deep.RegionHeld3
import Derived.Laws.Rows
import Derived.Lib.AppendStr
import Derived.ArgAppend
import Derived.Laws.IdiomCopy
import Derived.OrdersHeld
import Derived.Laws.BitsLemmas
import Derived.RowKit
import Derived.Lib.BufferMore
import Derived.Maps.RangeRun
import Derived.WalkSpells
import Derived.Shelf.GgClosure.StringsIndexFunc
import Derived.RangeFuncNested
import Derived.RangeFuncBound
import Derived.RangeFuncCalls
import Derived.RangeFuncLeaves
import Derived.Shelf.Abstract
import Derived.OwnWalkIn
import Derived.TacticsInMore
import Derived.LoopNIn
import Derived.LoopIn
import Derived.Laws.EntriesVeiled
import Derived.MapKept
import Derived.Test.YtdbjjaodkapikaaLHand
import Derived.Test.YtdbjjaodkapikaaLWWords
import Derived.Test.YtdbjjaodkapikaaLWMore
import Derived.Laws.StructEq
section
namespace Go.Proofs.Ytdbjjaodkapikaa.TE
open Go.RowKit Go.Proofs.YtdbjjaodkapikaaW.PrintWords Go.Proofs.YtdbjjaodkapikaaW.PrintLast Go.Proofs.YtdbjjaodkapikaaW.PrintMore
attribute [local go_sem] max2_int min2_int max_two min_two max_three min_three max_four min_four
set_option linter.unusedVariables false
set_option linter.unusedSimpArgs false
def errW : Option Int → Value
  | none => .nilIface
  | some c => .iface 0 (.int .i64 c)
theorem errW_none : errW none = .nilIface := rfl
theorem errW_some (c : Int) : errW (some c) = .iface 0 (.int .i64 c) := rfl
theorem info42 : (Try.prog.info? 42).map (fun i => (i.zero, i.size, i.bytes)) = some (some (.agg #[(.int .i64 0), (.string ⟨#[]⟩), (.slice none 0 0)]), 3, 48) := by kernel_rfl
structure S42 where
  f0 : Int
  f1 : ByteArray
  f2 : (List S42)
def z42 : S42 := ⟨(0 : Int), (⟨#[]⟩ : ByteArray), ([] : List S42)⟩
def F42 (d : Kd S42) : Kd S42 := Kd.iso (Kd.pair (Kd.int .i64) (Kd.pair Kd.string (Kd.slice 42 d))) (fun x : S42 => (x.f0, x.f1, x.f2))
theorem mono42 : Kd.Mono F42 := Kd.mono_iso _ (Kd.mono_pair (Kd.mono_const _) (Kd.mono_pair (Kd.mono_const _) (Kd.mono_slice 42 Kd.mono_id)))
theorem sub42 : Kd.Sub F42 [42] := Kd.sub_iso _ (Kd.sub_pair (Kd.sub_const _ (by decide)) (Kd.sub_pair (Kd.sub_const _ (by decide)) (Kd.sub_slice 42 (by decide) Kd.sub_id)))
theorem sz42 : ∀ n, (Kd.upto F42 3 [42] n).sz = 3 := Kd.upto_sz (fun _ => rfl)
def k42 : Kd S42 := Kd.fix F42 3 [42] sz42 (Kd.upto_E sub42)
theorem k42_open {w : World} {x : S42} {cs : List Value} (h : k42.K w x cs) : ∃ A2 c2, cs = [.int .i64 x.f0, .string x.f1, .slice A2 x.f2.length c2] ∧ x.f2.length ≤ c2 ∧ k42.C w A2 x.f2.length x.f2 := by
  obtain ⟨n, h⟩ := h
  cases n with
  | zero => exact h.elim
  | succ n =>
    obtain ⟨_, _, rfl, rfl, ⟨_, _, rfl, rfl, ⟨A2, c2, rfl, l2, g2⟩⟩⟩ := h; exact ⟨A2, c2, rfl, l2, Kd.fix_C g2⟩
theorem k42_openM {w : World} {base : Nat} {ok : Nat → Prop} {x : S42} {cs : List Value} (h : k42.M w base ok x cs) : ∃ v2, cs = [.int .i64 x.f0, .string x.f1, v2] ∧ k42.R 42 w base ok v2 x.f2 := by
  obtain ⟨n, h⟩ := h
  cases n with
  | zero => exact h.elim
  | succ n =>
    obtain ⟨_, _, rfl, rfl, ⟨_, _, rfl, rfl, ⟨v2, rfl, g2⟩⟩⟩ := h; exact ⟨v2, rfl, Kd.fix_R g2⟩
theorem k42_mk (w : World) (x : S42) {A2 : Option Addr} {c2 : Nat} (l2 : x.f2.length ≤ c2) (g2 : k42.C w A2 x.f2.length x.f2) : k42.K w x [.int .i64 x.f0, .string x.f1, .slice A2 x.f2.length c2] := by
  obtain ⟨n2, q2⟩ := Kd.fix_C_back mono42 g2; have r2 := Kd.upto_C_le mono42 sz42 (show n2 ≤ n2 by omega) q2; exact ⟨n2 + 1, ⟨[.int .i64 x.f0], [.string x.f1, .slice A2 x.f2.length c2], rfl, rfl, ⟨[.string x.f1], [.slice A2 x.f2.length c2], rfl, rfl, ⟨A2, c2, rfl, l2, r2⟩⟩⟩⟩
theorem k42_mkM (w : World) (base : Nat) (ok : Nat → Prop) (x : S42) {v2 : Value} (g2 : k42.R 42 w base ok v2 x.f2) : k42.M w base ok x [.int .i64 x.f0, .string x.f1, v2] := by
  obtain ⟨n2, q2⟩ := Kd.fix_R_back mono42 g2; have r2 := Kd.upto_R_le mono42 sz42 (show n2 ≤ n2 by omega) q2; exact ⟨n2 + 1, ⟨[.int .i64 x.f0], [.string x.f1, v2], rfl, rfl, ⟨[.string x.f1], [v2], rfl, rfl, ⟨v2, rfl, r2⟩⟩⟩⟩
theorem k42_mkF (W : World) (ok : Nat → Prop) (x : S42) {A2 : Option Addr} {c2 : Nat} (l2 : x.f2.length ≤ c2) (g2 : Kd.F k42 W ok A2 x.f2.length x.f2) : Kd.FK k42 W ok x [.int .i64 x.f0, .string x.f1, .slice A2 x.f2.length c2] := fun W2 hW => k42_mk W2 x l2 (g2 W2 hW)
def rd_T42 (xs : List S42) (i : Int) : S42 := xs.getD i.toNat z42
theorem at_T42 {w : World} {A : Option Addr} {n : Nat} {xs : List S42} (h : Kd.C k42 w A n xs) (i : Int) (h0 : 0 ≤ i) (h1 : i < n) : ∃ ad A2 c2, A = some ad ∧ w.cell? (ad.add (i.toNat * 3)) = some (.int .i64 (rd_T42 xs i).f0) ∧ w.cell? ⟨(ad.add (i.toNat * 3)).block, (ad.add (i.toNat * 3)).off + 1, none⟩ = some (.string (rd_T42 xs i).f1) ∧ w.cell? ⟨(ad.add (i.toNat * 3)).block, (ad.add (i.toNat * 3)).off + 2, none⟩ = some (.slice A2 (rd_T42 xs i).f2.length c2) ∧ (rd_T42 xs i).f2.length ≤ c2 ∧ k42.C w A2 (rd_T42 xs i).f2.length (rd_T42 xs i).f2 := by
  obtain ⟨ad, c, e, _, hK, hc0⟩ := Kd.C_get h z42 i h0 h1; have hc : ∀ j u, c[j]? = some u → w.cell? (ad.add (i.toNat * 3 + j)) = some u := hc0; obtain ⟨A2, c2, rfl, l2, g2⟩ := k42_open hK; exact ⟨ad, A2, c2, e, hc 0 _ rfl, by rw [← add_field _ _ 1 (by omega)]; exact hc 1 _ rfl, by rw [← add_field _ _ 2 (by omega)]; exact hc 2 _ rfl, l2, g2⟩
structure S122 where
  f0 : (List S42)
  f1 : S42
def k122 : Kd S122 := Kd.iso (Kd.pair (Kd.slice 42 k42) k42) (fun x : S122 => (x.f0, x.f1))
end Go.Proofs.Ytdbjjaodkapikaa.TE
end
section
namespace Go.Proofs.Ytdbjjaodkapikaa.TE
open Go.RowKit Go.Proofs.YtdbjjaodkapikaaW.PrintWords Go.Proofs.YtdbjjaodkapikaaW.PrintLast Go.Proofs.YtdbjjaodkapikaaW.PrintMore
attribute [local go_sem] max2_int min2_int max_two min_two max_three min_three max_four min_four
set_option linter.unusedVariables false
set_option linter.unusedSimpArgs false
section
attribute [local go_sem] Oper.semAt_some
structure KeepC (n₀ m : Nat) (W W' : World) : Prop where
  below : Below n₀ W W'
  cells : ∀ k cs t fr, m ≤ k → W.heap[k]? = some (.cells cs t fr) → W'.heap[k]? = some (.cells cs t fr)
theorem KeepC.trans {n₀ m : Nat} {A B C : World} (h : KeepC n₀ m A B) (k : KeepC n₀ m B C) : KeepC n₀ m A C :=
  ⟨h.below.trans k.below, fun i cs t fr hi hc => k.cells i cs t fr hi (h.cells i cs t fr hi hc)⟩
theorem KeepC.refl (n₀ m : Nat) (W : World) : KeepC n₀ m W W := ⟨Below.refl _ _, fun _ _ _ _ _ h => h⟩
theorem KeepC.ofBelow {n₀ m : Nat} {W W' : World} (h : Below W.heap.size W W') (hn : n₀ ≤ W.heap.size) : KeepC n₀ m W W' :=
  ⟨h.mono hn, fun k cs t fr _ hc => (h.block k (Array.getElem?_eq_some_iff.1 hc).1).trans hc⟩
theorem KeepC.put {n₀ m : Nat} (W : World) (l : Nat) (o o' : Obj) (hl : n₀ ≤ l) (h : W.heap[l]? = some o) (hc : o.isCells = false) : KeepC n₀ m W (W.putObj l o') :=
  ⟨(Below.refl n₀ W).grown (grownBy_putObj' W l o') (by have := (Array.getElem?_eq_some_iff.1 h).1; omega) (fun k e => by cases e; omega), fun k cs t fr _ hk => by
    by_cases e : k = l
    · subst e; rw [h] at hk; cases hk; simp [Obj.isCells] at hc
    · exact (World.putObj_heap_other e).trans hk⟩
def flat : List S42 → List S42
  | [] => []
  | x :: r => x :: (flat x.f2 ++ flat r)
  termination_by l => SizeOf.sizeOf l
  decreasing_by all_goals (cases x; simp; omega)
theorem flat_nil : flat [] = [] := by rw [flat]
theorem flat_cons (x : S42) (r : List S42) : flat (x :: r) = x :: (flat x.f2 ++ flat r) := by rw [flat]
theorem flat_append (a b : List S42) : flat (a ++ b) = flat a ++ flat b := by
  induction a with
  | nil => simp [flat_nil]
  | cons x r ih => simp [flat_cons, ih]
structure Yd (w0 : World) (L : List S42) where
  x : S42
  hm : x ∈ L
  A : Option Addr
  c : Nat
  hc : x.f2.length ≤ c
  hr : Kd.C k42 w0 A x.f2.length x.f2
def Yd.enc {w0 : World} {L : List S42} (y : Yd w0 L) : Array Value := #[.agg #[.int .i64 y.x.f0, .string y.x.f1, .slice y.A y.x.f2.length y.c]]
theorem sizeOf_kids (l : List S42) (i : Nat) (h : i < l.length) : SizeOf.sizeOf (l[i]).f2 < SizeOf.sizeOf l := by
  have h1 := List.sizeOf_lt_of_mem (List.getElem_mem h)
  have h2 : SizeOf.sizeOf (l[i]).f2 < SizeOf.sizeOf l[i] := by cases l[i]; simp; omega
  omega
theorem flat_take_succ (l : List S42) (i : Nat) (h : i < l.length) : flat (l.take (i + 1)) = flat (l.take i) ++ (l[i] :: flat (l[i]).f2) := by
  rw [List.take_succ_eq_append_getElem h, flat_append, flat_cons, flat_nil, List.append_nil]
theorem flat_take_le (l : List S42) (i : Nat) : (flat (l.take i)).length ≤ (flat l).length := by
  conv => rhs; rw [← List.take_append_drop i l, flat_append]
  simp
theorem flat_take_prefix (l : List S42) (i : Nat) : flat (l.take i) <+: flat l := by
  conv => rhs; rw [← List.take_append_drop i l, flat_append]
  exact List.prefix_append _ _
theorem round_any {m m' : Nat} {P : Program} {l : Nat} {f : FuncId} {tmps : Array Value} {assign body : Code} {w : World} {R : Ending → World → Prop}
    (h : RoundIn Fence.wide m P l f tmps assign body w R) : RoundIn Fence.wide m' P l f tmps assign body w R := ⟨h.1, fun c cs _ => h.2 c cs (room_wide _)⟩
theorem calls_any {m m' : Nat} {P : Program} {f : FuncId} {args : Array Value} {w : World} {R : Ending → World → Prop} (h : CallsIn Fence.wide m P f args w R) : CallsIn Fence.wide m' P f args w R :=
  ⟨h.1, fun cs _ => h.2 cs (room_wide _)⟩
theorem yield_any {m m' : Nat} {P : Program} {l : Nat} {args : Array Value} {W : World} {R : Ending → World → Prop} (h : YieldAt Fence.wide m P l args W R) : YieldAt Fence.wide m' P l args W R := by
  obtain ⟨fn, tmps, assign, body, hy, hR⟩ := h; exact ⟨fn, tmps, assign, body, hy, round_any hR⟩
set_option maxRecDepth 100000 in
set_option maxHeartbeats 4000000 in
theorem walk_all_in (w0 : World) (L : List S42) (lp m By Bw N : Nat) (J Jx : List (Yd w0 L) → World → Prop) (n : Nat) (B : Nat) (hJ : AbidesFrom B J)
    (hBy : m ≤ By) (hBw : m ≤ Bw)
    (hY : ∀ pre y W, J pre W → pre.length < N → YieldAt Fence.wide n Try.prog lp y.enc W fun e W' =>
      (e = .returned (.bool true) ∧ J (pre ++ [y]) W' ∧ KeepC w0.heap.size m W W') ∨ (e = .returned (.bool false) ∧ Jx (pre ++ [y]) W')) :
    ∀ (k : Nat) (A : Option Addr) (c : Nat) (l : List S42) (pre : List (Yd w0 L)) (W : World), SizeOf.sizeOf l ≤ k → (∀ t, t ∈ flat l → t ∈ L) → Kd.C k42 w0 A l.length l → l.length ≤ c → Below w0.heap.size w0 W → m ≤ W.heap.size →
      W.heap[By]? = some (.cells #[.func (.yield lp) #[] #[]] 50 (0, 0)) → W.heap[Bw]? = some (.cells #[.func (.func 102) #[] #[.pointer (some ⟨By, 0, none⟩), .pointer (some ⟨Bw, 0, none⟩)]] 35 (0, 0)) →
      J pre W → pre.length + (flat l).length ≤ N →
      CallsIn Fence.wide n Try.prog 102 #[.slice A l.length c, .pointer (some ⟨By, 0, none⟩), .pointer (some ⟨Bw, 0, none⟩)] W fun e W' =>
        (e = .returned (.bool true) ∧ ∃ ys : List (Yd w0 L), ys.map (·.x) = flat l ∧ J (pre ++ ys) W' ∧ KeepC w0.heap.size m W W') ∨
        (e = .returned (.bool false) ∧ ∃ ys : List (Yd w0 L), ys.map (·.x) <+: flat l ∧ Jx (pre ++ ys) W') := by
  intro k
  induction k with
  | zero => intro A c l pre W hk; cases l <;> simp at hk
  | succ k ih =>
    intro A c l pre W hk hL hC hc hB hm hy0 hw0 hj hN; have hu42 := Try.underlying42; have hmax := Kd.C_max hC; refine callsIn_of_wp Try.func102 rfl trivial ?_ rfl; simp only [Try.ntmps102, List.size_toArray, List.length_cons, List.length_nil, Nat.reduceAdd, Nat.reduceSub, Array.replicate_succ, Array.replicate_zero, List.push_toArray, List.append_toArray, List.nil_append, List.cons_append]
    gi_wp2
    gi_loopw [9] (fun i wr => ∃ (q : Nat) (ys : List (Yd w0 L)), i = .int .i64 q ∧ q ≤ l.length ∧ ys.map (·.x) = flat (l.take q) ∧ J (pre ++ ys) wr ∧ KeepC w0.heap.size m W wr) (fun i wr => l.length - (intOf i).toNat)
    case atStart => exact ⟨0, [], rfl, Nat.zero_le _, by simp [flat_nil], by simpa using hj, KeepC.refl _ _ _⟩
    case round =>
      obtain ⟨q, ys, rfl, hq, hys, hjs, hK⟩ := hrel
      have hlen : ys.length = (flat (l.take q)).length := by rw [← hys, List.length_map]
      have HY := Aside0.mk hys; have HJs := Aside0.mk hjs; have HKs := Aside0.mk hK; have HL := Aside0.mk hlen; have hBr : Below w0.heap.size w0 wr := hB.trans hK.below; have hszr : W.heap.size ≤ wr.heap.size := hK.below.size; clear hys hjs hlen
      by_cases hlt : q < l.length
      · obtain ⟨ad, A2, c2, rfl, hx0, hx1, hx2, hl2, hr2⟩ := at_T42 hC (q : Int) (by omega) (by omega)
        have hrd : rd_T42 l (q : Int) = l[q] := by simp [rd_T42, List.getD_eq_getElem?_getD, List.getElem?_eq_getElem hlt]
        rw [hrd] at hx0 hx1 hx2 hl2 hr2; rw [Int.toNat_natCast] at hx0 hx1 hx2; obtain ⟨x, hxx⟩ : ∃ x, l[q] = x := ⟨_, rfl⟩
        have hsz : SizeOf.sizeOf x.f2 ≤ k := by have := sizeOf_kids l q hlt; rw [hxx] at this; omega
        have hft := flat_take_succ l q hlt; have hfl := flat_take_le l (q + 1); rw [hxx] at hx0 hx1 hx2 hl2 hr2 hft
        have hN2 : (flat (l.take q)).length + (1 + (flat x.f2).length) ≤ (flat l).length := by rw [hft] at hfl; simp at hfl; omega
        have hxf : x ∈ flat l := (flat_take_prefix l (q + 1)).subset (by rw [hft]; simp)
        have hkf : ∀ t, t ∈ flat x.f2 → t ∈ L := fun t ht => hL t ((flat_take_prefix l (q + 1)).subset (by rw [hft]; simp [ht]))
        obtain ⟨y, hy⟩ : ∃ y : Yd w0 L, y = ⟨x, hL x hxf, A2, c2, hl2, hr2⟩ := ⟨_, rfl⟩
        have hyx : y.x = x := by rw [hy]
        replace hx0 := (hBr.cell (World.block_lt_of_cell? w0 _ hx0)).trans hx0; replace hx1 := (hBr.cell (World.block_lt_of_cell? w0 _ hx1)).trans hx1; replace hx2 := (hBr.cell (World.block_lt_of_cell? w0 _ hx2)).trans hx2; obtain ⟨W1, hW1⟩ : ∃ W1, wr.alloc (.cells #[.int .i64 x.f0, .string x.f1, .slice A2 x.f2.length c2] 42) = W1 := ⟨_, rfl⟩
        have hb1 : Below wr.heap.size wr W1 := by rw [← hW1]; exact (Below.refl _ wr).alloc (Nat.le_refl _) _
        have hk1 : KeepC w0.heap.size m wr W1 := KeepC.ofBelow hb1 (Nat.le_trans hB.size hszr)
        have ht1 : W1.heap[wr.heap.size]? = some (.cells #[.int .i64 x.f0, .string x.f1, .slice A2 x.f2.length c2] 42 (0, 0)) := by rw [← hW1]; exact World.alloc_heap_new wr _
        have hj1 : J (pre ++ ys) W1 := hJ _ wr W1 none HJs.out (by rw [← hW1]; exact World.grownBy_alloc wr _ none) (fun r e => by cases e); obtain ⟨fn, tmps, assign, body, hyr, hR⟩ := hY (pre ++ ys) y W1 hj1 (by have := HL.out; simp; omega)
        have henc : y.enc = #[.agg #[.int .i64 x.f0, .string x.f1, .slice A2 x.f2.length c2]] := by rw [hy]; rfl
        rw [henc] at hyr; have hby1 := hk1.cells By _ _ _ hBy (hK.cells By _ _ _ hBy hy0); have hcy : W1.cell? ⟨By, 0, none⟩ = some (.func (.yield lp) #[] #[]) := (q5 hby1 0).trans rfl
        have hdd : ∀ k : Nat, (Fence.wide.depth.isSome = true → 1 ≤ k) := fun k h => by simp [Fence.wide] at h
        have hR2 := hR.mono (R' := fun e W2 =>
            (e = .returned (.bool true) ∧ W2.cell? ⟨Bw, 0, none⟩ = some (.func (.func 102) #[] #[.pointer (some ⟨By, 0, none⟩), .pointer (some ⟨Bw, 0, none⟩)]) ∧
              W2.cell? ⟨wr.heap.size, 2, none⟩ = some (.slice A2 x.f2.length c2) ∧
              CallsIn Fence.wide n Try.prog 102 #[.slice A2 x.f2.length c2, .pointer (some ⟨By, 0, none⟩), .pointer (some ⟨Bw, 0, none⟩)] W2 fun e W3 =>
                (e = .returned (.bool true) ∧ ∃ zs : List (Yd w0 L), zs.map (·.x) = flat x.f2 ∧ J (pre ++ (ys ++ y :: zs)) W3 ∧ KeepC w0.heap.size m W W3) ∨
                (e = .returned (.bool false) ∧ ∃ zs : List (Yd w0 L), zs.map (·.x) <+: flat x.f2 ∧ Jx (pre ++ (ys ++ y :: zs)) W3)) ∨
            (e = .returned (.bool false) ∧ Jx (pre ++ (ys ++ [y])) W2)) (fun e W2 h => by
          rcases h with ⟨he, hj2, hk2⟩ | ⟨he, hj2⟩
          · refine .inl ⟨he, ?_, ?_, ?_⟩
            · exact (q5 (hk2.cells Bw _ _ _ hBw (hk1.cells Bw _ _ _ hBw (hK.cells Bw _ _ _ hBw hw0))) 0).trans rfl
            · exact (q5 (hk2.cells wr.heap.size _ _ _ (Nat.le_trans hm hszr) ht1) 2).trans rfl
            · have hkk := (hK.trans hk1).trans hk2; refine (ih A2 c2 x.f2 (pre ++ ys ++ [y]) W2 hsz hkf hr2 hl2 (hB.trans hkk.below) (Nat.le_trans hm hkk.below.size) (hkk.cells By _ _ _ hBy hy0) (hkk.cells Bw _ _ _ hBw hw0) hj2 (by have := HL.out; simp; omega)).mono ?_; rintro e3 W3 (⟨he3, zs, hz, hj3, hk3⟩ | ⟨he3, zs, hz, hj3⟩)
              · exact .inl ⟨he3, zs, hz, by simpa [List.append_assoc] using hj3, hkk.trans hk3⟩
              · exact .inr ⟨he3, zs, hz, by simpa [List.append_assoc] using hj3⟩
          · exact .inr ⟨he, by simpa [List.append_assoc] using hj2⟩)
        have ht10 : W1.cell? ⟨wr.heap.size, 0, none⟩ = some (.int .i64 x.f0) := (q5 ht1 0).trans rfl; have ht11 : W1.cell? ⟨wr.heap.size, 1, none⟩ = some (.string x.f1) := (q5 ht1 1).trans rfl; have ht12 : W1.cell? ⟨wr.heap.size, 2, none⟩ = some (.slice A2 x.f2.length c2) := (q5 ht1 2).trans rfl; have HX := Aside0.mk hxx; have HFT := Aside0.mk hft; have HT1 := Aside0.mk ht1; have HYX := Aside0.mk hyx; clear hxf hkf hL hxx hft ht1 hyx hrd hy henc hR hY ih hby1 hy0 hw0 hsz hfl hK hk1 HJs hj hj1
        have hlb : decide ((q : Int) < (l.length : Int)) = true := by simp; omega
        gi_wp2_with ((try refine ⟨hdd _, ?_⟩); refine (round_any hR2).mono ?_; clear hR2; rintro e W2 (⟨rfl, hcw2, hck2, hC2⟩ | ⟨rfl, hJ2⟩))
        · refine ⟨trivial, hdd _, (calls_any hC2).mono ?_⟩; clear hC2; rintro e W3 (⟨rfl, zs, hz, hJ3, hK3⟩ | ⟨rfl, zs, hz, hJ3⟩)
          · have HZ := Aside0.mk hz; clear hz
            gi_wp2
            go_roundw
            case rel => exact ⟨q + 1, ys ++ y :: zs, by go_num, by omega, by rw [HFT.out, List.map_append, List.map_cons, HYX.out, HY.out, HZ.out], hJ3, hK3⟩
            case measure => simp [intOf]; omega
          · have HZ := Aside0.mk hz; clear hz
            gi_wp2
            go_ret; refine .inr ⟨rfl, ys ++ y :: zs, ?_, hJ3⟩; rw [List.map_append, List.map_cons, HYX.out, HY.out]; refine List.IsPrefix.trans ?_ (flat_take_prefix l (q + 1)); rw [HFT.out]
            exact List.prefix_append_right_inj _ |>.2 ((List.prefix_cons_inj _).2 HZ.out)
        · refine ⟨fun _ h => (by cases h), ?_⟩
          gi_wp2
          go_ret; refine .inr ⟨rfl, ys ++ [y], ?_, hJ2⟩; rw [List.map_append, List.map_cons, HYX.out, HY.out]; refine List.IsPrefix.trans ?_ (flat_take_prefix l (q + 1)); rw [HFT.out]
          exact List.prefix_append_right_inj _ |>.2 ((List.prefix_cons_inj _).2 (List.nil_prefix))
      · obtain rfl : q = l.length := by omega
        have hlb : decide ((l.length : Int) < (l.length : Int)) = false := by simp
        gi_wp2
        go_ret; exact .inl ⟨rfl, ys, by rw [HY.out, List.take_length], HJs.out, HKs.out⟩
set_option maxHeartbeats 2000000 in
theorem all_in (n : Nat) (A : Option Addr) (m c : Nat) (w : World) :
    CallsIn Fence.wide n Try.prog 64 #[.slice A m c] w fun e w' => e = .returned (.func (.func 101) #[] #[.pointer (some ⟨w.heap.size, 0, none⟩)]) ∧ w' = w.alloc (.cells #[.slice A m c] 22) := by
  refine callsIn_of_wp Try.func64 rfl trivial ?_ rfl; simp only [Try.ntmps64, List.size_toArray, List.length_cons, List.length_nil, Nat.reduceAdd, Nat.reduceSub, Array.replicate_succ, Array.replicate_zero, List.push_toArray, List.append_toArray, List.nil_append, List.cons_append]
  gi_wp2
  go_ret; exact ⟨rfl, rfl⟩
set_option maxHeartbeats 2000000 in
theorem all_stops (n : Nat) (w0 w : World) (hB : Below w0.heap.size w0 w) (Bl : Nat) (A : Option Addr) (c : Nat) (l : List S42) (hC : Kd.C k42 w0 A l.length l) (hc : l.length ≤ c)
    (hl : w.cell? ⟨Bl, 0, none⟩ = some (.slice A l.length c)) :
    SeqStopsK Fence.wide n Try.prog 101 #[.pointer (some ⟨Bl, 0, none⟩)] (Yd.enc (w0 := w0) (L := flat l)) (KeepC w0.heap.size w.heap.size) (fun ys => ys.map (·.x) = flat l) (fun pre => pre.map (·.x) <+: flat l) (flat l).length w := by
  intro lp J Jx W hW hJ hJx hY h0; have hlt : Bl < w.heap.size := World.block_lt_of_cell? w ⟨Bl, 0, none⟩ hl; have hlW : W.cell? ⟨Bl, 0, none⟩ = some (.slice A l.length c) := (hW.cell (p := ⟨Bl, 0, none⟩) hlt).trans hl; obtain ⟨W2, hW2⟩ : ∃ W2, (W.alloc (.cells #[.func (.yield lp) #[] #[]] 50)).alloc (.cells #[.func (.func 102) #[] #[.pointer (some ⟨W.heap.size, 0, none⟩), .pointer (some ⟨W.heap.size + 1, 0, none⟩)]] 35) = W2 := ⟨_, rfl⟩
  have hb2 : Below W.heap.size W W2 := by rw [← hW2]; exact ((Below.refl _ W).alloc (Nat.le_refl _) _).alloc (by simp) _
  have hy2 : W2.heap[W.heap.size]? = some (.cells #[.func (.yield lp) #[] #[]] 50 (0, 0)) := by
    rw [← hW2]; exact (Below.heap_alloc _ _ _ (by simp)).trans (World.alloc_heap_new W _)
  have hw2 : W2.heap[W.heap.size + 1]? = some (.cells #[.func (.func 102) #[] #[.pointer (some ⟨W.heap.size, 0, none⟩), .pointer (some ⟨W.heap.size + 1, 0, none⟩)]] 35 (0, 0)) := by
    rw [← hW2]; have := World.alloc_heap_new (W.alloc (.cells #[.func (.yield lp) #[] #[]] 50)) (.cells #[.func (.func 102) #[] #[.pointer (some ⟨W.heap.size, 0, none⟩), .pointer (some ⟨W.heap.size + 1, 0, none⟩)]] 35)
    rwa [World.size_alloc] at this
  have hj2 : J [] W2 := hJ _ W W2 none h0 (by rw [← hW2]; exact (World.grownBy_alloc W _ none).trans (World.grownBy_alloc _ _ none)) (fun r e => by cases e); have hcall := walk_all_in w0 (flat l) lp w.heap.size W.heap.size (W.heap.size + 1) (flat l).length J Jx (n - 1) W.heap.size hJ hW.size (Nat.le_succ_of_le hW.size)
    (fun pre y W' hj hn => yield_any (hY pre y W' hj hn)) (SizeOf.sizeOf l) A c l [] W2 (Nat.le_refl _) (fun t ht => ht) hC hc (hB.trans ((hW.mono hB.size).trans (hb2.mono (Nat.le_trans hB.size hW.size)))) (Nat.le_trans hW.size hb2.size) hy2 hw2 hj2 (by simp)
  have hcy : W2.cell? ⟨W.heap.size, 0, none⟩ = some (.func (.yield lp) #[] #[]) := (q5 hy2 0).trans rfl; have hcw : W2.cell? ⟨W.heap.size + 1, 0, none⟩ = some (.func (.func 102) #[] #[.pointer (some ⟨W.heap.size, 0, none⟩), .pointer (some ⟨W.heap.size + 1, 0, none⟩)]) := (q5 hw2 0).trans rfl; have hcl : W2.cell? ⟨Bl, 0, none⟩ = some (.slice A l.length c) := (hb2.cell (p := ⟨Bl, 0, none⟩) (Nat.lt_of_lt_of_le hlt hW.size)).trans hlW; have HY2 := Aside0.mk hy2; have HW2 := Aside0.mk hw2; clear hy2 hw2 hY h0 hJ hJx hj2
  have hdd : ∀ k : Nat, (Fence.wide.depth.isSome = true → 1 ≤ k) := fun k h => by simp [Fence.wide] at h
  refine callsIn_of_wp Try.func101 rfl trivial ?_ rfl; simp only [Try.ntmps101, List.size_toArray, List.length_cons, List.length_nil, Nat.reduceAdd, Nat.reduceSub, Array.replicate_succ, Array.replicate_zero, List.push_toArray, List.append_toArray, List.nil_append, List.cons_append]
  gi_wp2_with (fail)
  refine ⟨trivial, hdd _, hcall.mono ?_⟩; clear hcall; rintro e W3 (⟨rfl, ys, hys, hJ3, _⟩ | ⟨rfl, ys, hys, hJ3⟩)
  · have HZ := Aside0.mk hys; clear hys
    gi_wp2
    go_end0
    exact ⟨⟨_, rfl⟩, .inl ⟨ys, HZ.out, by simpa using hJ3⟩⟩
  · have HZ := Aside0.mk hys; clear hys
    gi_wp2
    go_end0
    exact ⟨⟨_, rfl⟩, .inr ⟨ys, HZ.out, by simpa using hJ3⟩⟩
theorem enters101 : ∀ args w, (callFunc 101 args).run Try.prog w = .ok (.enter 101 args) w := enters_of Try.func101 (by kernel_rfl) rfl
theorem range_all {p : Tmp} {g : Operand} {assign body : Code} {Q : Exit → Act → World → Prop} {a : Act} {w : World}
    (w0 : World) (hB : Below w0.heap.size w0 w) (Bl : Nat) (A : Option Addr) (c : Nat) (l : List S42) (hC : Kd.C k42 w0 A l.length l) (hc : l.length ≤ c)
    (hl : w.cell? ⟨Bl, 0, none⟩ = some (.slice A l.length c)) (hg : a.eval g = .func (.func 101) #[] #[.pointer (some ⟨Bl, 0, none⟩)])
    (I : List (Yd w0 (flat l)) → World → Prop) (Ix : Code → List (Yd w0 (flat l)) → World → Prop) (hI : OwnFrom w.heap.size I) (hIx : ∀ c, OwnFrom w.heap.size (Ix c)) (h0 : I [] w) (a₁ : Yd w0 (flat l) → Act)
    (hassign : ∀ (lp : Nat) (x : Yd w0 (flat l)) (W : World) (K : Act → World → Prop), K (a₁ x) W →
      assign.wpIn (Fence.wide.inRound lp) 7 Try.prog (Exit.then K (fun _ _ _ => False)) { tmps := a.tmps.setIfInBounds p (.agg #[.int .i64 x.x.f0, .string x.x.f1, .slice x.A x.x.f2.length x.c]), defers := [] } W)
    (hbody : ∀ (lp : Nat) (pre : List (Yd w0 (flat l))) (x : Yd w0 (flat l)) (W : World), I pre W → pre.length < (flat l).length →
      body.wpIn (Fence.wide.inRound lp) 7 Try.prog (ownPostK (KeepC w0.heap.size w.heap.size) I Ix (pre ++ [x]) W) (a₁ x) W)
    (hdone : ∀ (D : Nat) (ys : List (Yd w0 (flat l))) (W : World), w.heap.size ≤ D → ys.map (·.x) = flat l → I ys W → W.heap[D]? = some (.deferred (some [])) →
      Q .normal { a with defers := { target := .collected D, args := #[] } :: a.defers } W)
    (hstop : ∀ (D : Nat) (c : Code) (pre : List (Yd w0 (flat l))) (W : World), w.heap.size ≤ D → pre.map (·.x) <+: flat l → Ix c pre W → W.heap[D]? = some (.deferred (some [])) →
      c.wp Try.prog Q { a with defers := { target := .collected D, args := #[] } :: a.defers } W) :
    (Code.rangeFunc g #[p] assign body).wp Try.prog Q a w :=
  wpIn_wide.1 (wpIn_rangeFunc_ownF (n := 9) rfl (by omega) hg trivial enters101 (all_stops 8 w0 w hB Bl A c l hC hc hl) KeepC.trans
    (fun W k o o' hk ho hc hw => KeepC.put W k o o' (Nat.le_trans hB.size hk) ho hc) (Below.refl _ _) (fun _ => rfl) I Ix hI hIx h0 a₁
    (fun lp x W K hK => by have := hassign lp x W K hK; simpa [Yd.enc] using this) hbody hdone (fun D c pre W hD hp hx hk => wpIn_wide.2 (hstop D c pre W hD hp hx hk)))
theorem range_allH {p : Tmp} {g : Operand} {assign body : Code} {Q : Exit → Act → World → Prop} {a : Act} {w : World}
    (w0 : World) (hB : Below w0.heap.size w0 w) (Bl : Nat) (A : Option Addr) (c : Nat) (l : List S42) (hC : Kd.C k42 w0 A l.length l) (hc : l.length ≤ c)
    (hl : w.cell? ⟨Bl, 0, none⟩ = some (.slice A l.length c)) (hg : a.eval g = .func (.func 101) #[] #[.pointer (some ⟨Bl, 0, none⟩)])
    (I : List (Yd w0 (flat l)) → World → Prop) (Ix : Code → List (Yd w0 (flat l)) → World → Prop) (hI : OwnFrom w.heap.size I) (hIx : ∀ c, OwnFrom w.heap.size (Ix c)) (h0 : I [] w)
    (Ax : Yd w0 (flat l) → Act → World → Prop) (hAx : ∀ x a', OwnFrom w.heap.size (fun (_ : Unit) W => Ax x a' W))
    (hassign : ∀ (lp : Nat) (pre : List (Yd w0 (flat l))) (x : Yd w0 (flat l)) (W : World) (K : Act → World → Prop), I pre W →
      (∀ a' W', KeepsFrom w.heap.size W W' → KeepC w0.heap.size w.heap.size W W' → I pre W' → Ax x a' W' → K a' W') →
      assign.wpIn (Fence.wide.inRound lp) 7 Try.prog (Exit.then K (fun _ _ _ => False)) { tmps := a.tmps.setIfInBounds p (.agg #[.int .i64 x.x.f0, .string x.x.f1, .slice x.A x.x.f2.length x.c]), defers := [] } W)
    (hbody : ∀ (lp : Nat) (pre : List (Yd w0 (flat l))) (x : Yd w0 (flat l)) (a' : Act) (W : World), I pre W → Ax x a' W → pre.length < (flat l).length →
      body.wpIn (Fence.wide.inRound lp) 7 Try.prog (ownPostG w.heap.size (KeepC w0.heap.size w.heap.size) I Ix (pre ++ [x]) W) a' W)
    (hdone : ∀ (D : Nat) (ys : List (Yd w0 (flat l))) (W : World), w.heap.size ≤ D → ys.map (·.x) = flat l → I ys W → W.heap[D]? = some (.deferred (some [])) →
      Q .normal { a with defers := { target := .collected D, args := #[] } :: a.defers } W)
    (hstop : ∀ (D : Nat) (c : Code) (pre : List (Yd w0 (flat l))) (W : World), w.heap.size ≤ D → pre.map (·.x) <+: flat l → Ix c pre W → W.heap[D]? = some (.deferred (some [])) →
      c.wp Try.prog Q { a with defers := { target := .collected D, args := #[] } :: a.defers } W) :
    (Code.rangeFunc g #[p] assign body).wp Try.prog Q a w :=
  wpIn_wide.1 (wpIn_rangeFunc_ownH (n := 9) rfl (by omega) hg trivial enters101 (all_stops 8 w0 w hB Bl A c l hC hc hl) KeepC.trans
    (fun W k o o' hk ho hc hw => KeepC.put W k o o' (Nat.le_trans hB.size hk) ho hc) (Below.refl _ _) (fun _ => rfl) I Ix hI hIx h0 Ax hAx
    (fun lp pre x W K hi hK => by have := hassign lp pre x W K hi hK; simpa [Yd.enc] using this) (fun lp pre x a' W _ _ hi hx hl => hbody lp pre x a' W hi hx hl) hdone (fun D c pre W hD hp hx hk => wpIn_wide.2 (hstop D c pre W hD hp hx hk)))
theorem keepsFrom_below {B : Nat} {W W' : World} (h : Below W.heap.size W W') : KeepsFrom B W W' :=
  ⟨h.size, fun k o _ hk _ => (h.block k (Array.getElem?_eq_some_iff.1 hk).1).trans hk⟩
theorem ownFrom_blk {β : Type} (B b : Nat) (cs : β → Array Value) (t : TypeId) : OwnFrom B (fun (s : β) W => W.heap[b]? = some (.cells (cs s) t (0, 0))) :=
  fun s W W' row hs hg hr => (grownBy_keeps_cells hg (fun r e => (hr r e).2) hs rfl).trans hs
theorem ownFrom_old {β : Type} (B b : Nat) (o : Obj) (hb : b < B) : OwnFrom B (fun (_ : β) W => W.heap[b]? = some o) :=
  fun s W W' row hs hg hr => (hg.block b (Array.getElem?_eq_some_iff.1 hs).1 (fun e => by have := (hr b e.symm).1; omega)).trans hs
theorem ownFrom_size {β : Type} (B n : Nat) : OwnFrom B (fun (_ : β) W => n ≤ W.heap.size) := fun s W W' row hs hg hr => Nat.le_trans hs hg.size
theorem ownFrom_pure {β : Type} (B : Nat) (P : β → Prop) : OwnFrom B (fun (s : β) (_ : World) => P s) := fun _ _ _ _ h _ _ => h
theorem setCell_blk {W : World} {b : Nat} {v u : Value} {t : TypeId} (h : W.heap[b]? = some (.cells #[v] t (0, 0))) : (W.setCell ⟨b, 0, none⟩ u).heap[b]? = some (.cells #[u] t (0, 0)) := by
  have := blk_set h 0 u
  simpa using this
theorem KeepC.setCell {n₀ m : Nat} (W : World) (b i : Nat) (v : Value) (h1 : n₀ ≤ b) (h2 : b < m) : KeepC n₀ m W (W.setCell ⟨b, i, none⟩ v) :=
  ⟨(Below.refl n₀ W).setCell (p := ⟨b, i, none⟩) h1 v, fun k cs t fr hk hc => (Below.heap_setCell W ⟨b, i, none⟩ v k (by simp; omega)).trans hc⟩
theorem putObj_below {n : Nat} {w W : World} (h : Below n w W) (D : Nat) (o' : Obj) (hD : n ≤ D) (hsz : n ≤ W.heap.size) : Below n w (W.putObj D o') :=
  h.grown (grownBy_putObj' _ D _) hsz (fun k e => by cases e; omega)
def noPanic (Q : Exit → Act → World → Prop) : Exit → Act → World → Prop
  | .panic _, _, _ => False
  | e, a, w => Q e a w
theorem noPanic_le {Q : Exit → Act → World → Prop} : ∀ e a w, noPanic Q e a w → Q e a w
  | .panic _, _, _, h => h.elim
  | .normal, _, _, h => h
  | .ret, _, _, h => h
  | .exit _, _, _, h => h
  | .goto _, _, _, h => h
  | .outgrown, _, _, h => h
theorem calls_of_wp_marks {P : Program} {f : FuncId} {fn : Func} {c : Code} {args : Array Value} {w : World} {R : Ending → World → Prop}
    (hf : P.funcs[f]? = some fn) (hb : fn.body = some c)
    (h : c.wp P (noPanic (bodyPostM Fence.wide 9 P fn R)) { tmps := args ++ Array.replicate (fn.ntmps - args.size) undef, defers := [] } w) : Calls P f args w R :=
  callsIn_wide.1 (callsIn_of_wp_marks hf hb trivial (wpIn_wide.2 (Code.wp_mono noPanic_le h)))
theorem leave1 {P : Program} {fn : Func} {tmps : Array Value} {R : Ending → World → Prop} {D : Nat} {W : World} {v : Value} (hk : W.heap[D]? = some (.deferred (some [])))
    (hr : ∀ W', (results fn tmps).run P W' = .ok v W') (h : R (.returned v) (W.putObj D (.deferred none))) :
    LeavesInM Fence.wide 9 P fn tmps R [{ target := .collected D, args := #[] }] .returning W :=
  ⟨by simp, .inl ⟨_, _, rfl, run_takeDeferred hk, _, hr _, h⟩⟩
end
mutual
def term_depth.l0 : Nat → Int → List (S42) → Int → Int → Option (Int)
  | 0, _, _, _, _ => none
  | k + 1, x3, x6, x7, x8 => if x8 < x7 then (if 0 ≤ x8 then (if x8 < (x6.length : Int) then (if ((rd_T42 x6 x8).f0) = 4 then ((term_depth.f k ((rd_T42 x6 x8).f2)).bind fun t103 => (term_depth.l0 k (mx x3 (wrap64 (1 + t103))) x6 x7 (wrap64 (x8 + 1)))) else (if ((rd_T42 x6 x8).f0) = 8 then ((term_depth.f k ((rd_T42 x6 x8).f2)).bind fun t104 => (term_depth.l0 k (mx x3 (wrap64 (1 + t104))) x6 x7 (wrap64 (x8 + 1)))) else (if (((rd_T42 x6 x8).f2).length : Int) > 0 then ((term_depth.f k ((rd_T42 x6 x8).f2)).bind fun t105 => (term_depth.l0 k (mx x3 (wrap64 (1 + t105))) x6 x7 (wrap64 (x8 + 1)))) else (term_depth.l0 k x3 x6 x7 (wrap64 (x8 + 1)))))) else (none)) else (none)) else (some x3)
def term_depth.f : Nat → List (S42) → Option (Int)
  | 0, _ => none
  | k + 1, l0 => term_depth.l0 k 0 l0 (l0.length : Int) 0
end
set_option maxHeartbeats 8000000 in
set_option maxRecDepth 100000 in
theorem term_depth.calls (k : Nat) : ∀ (A0 : Option Addr) (c0 : Nat) (l0 : List (S42)) (r : Int) (w : World) (hr0 : Kd.C k42 w A0 l0.length l0) (hc0 : l0.length ≤ c0) (h : term_depth.f k l0 = some r),
    Calls Try.prog 65 #[.slice A0 l0.length c0] w fun e w' => e = .returned (.int .i64 r) ∧ Below w.heap.size w w' := by
  induction k using Nat.strongRecOn with
  | _ k ih =>
  intro A0 c0 l0 r w hr0 hc0 h
  cases k with
  | zero => exact absurd h (by simp [term_depth.f])
  | succ k =>
  simp only [term_depth.f] at h; have hu42 := Try.underlying42; have HR0 := Aside0.mk hr0; have HC0 := Aside0.mk hc0; clear hr0 hc0; have HB := Aside0.mk (Below.refl w.heap.size w); have H : (term_depth.l0 k 0 l0 (l0.length : Int) 0) = some r := h; clear h; have H' := Aside0.mk H; clear H
  go_enter Try.func65, Try.ntmps65
  go_wp2
  go_loopg [3, 8] k (fun kq v3 v8 w' => ∃ (x3_1 : Int) (x8_1 : Int), v3 = .int .i64 x3_1 ∧ v8 = .int .i64 x8_1 ∧ Aside0 (term_depth.l0 kq x3_1 l0 (l0.length : Int) x8_1 = some r) ∧ Aside0 (kq ≤ k) ∧ Aside0 (Below w.heap.size w w'))
  case atStart => exact ⟨(0), (0), (by first | rfl | (simp; done) | (simp [*]; done)), (by first | rfl | (simp; done) | (simp [*]; done)), H', ⟨Nat.le_refl _⟩, ⟨by repeat (first | (with_reducible first | exact HB.out | apply q11 | apply q9 | apply q10) | exact HB.out)⟩⟩
  case round =>
    clear H'; obtain ⟨x3_1, x8_1, rfl, rfl, HA, HK1, HB⟩ := hrel
    cases gk with
    | zero => exact absurd HA.out (by simp [term_depth.l0])
    | succ k1 =>
      have H := HA.out; clear HA; simp only [term_depth.l0] at H
      by_cases c2 : x8_1 < (l0.length : Int)
      · rw [if_pos c2] at H; have c2b0 : decide (x8_1 < (l0.length : Int)) = true := decide_eq_true c2; clear c2
        by_cases c3 : 0 ≤ x8_1
        · rw [if_pos c3] at H; have c3b0 : decide (0 ≤ x8_1) = true := decide_eq_true c3; clear c3
          by_cases c4 : x8_1 < (l0.length : Int)
          · rw [if_pos c4] at H; have c4b0 : decide (x8_1 < (l0.length : Int)) = true := decide_eq_true c4; clear c4
            by_cases c5 : ((rd_T42 l0 x8_1).f0) = 4
            · rw [if_pos c5] at H; have c5b0 : (((rd_T42 l0 x8_1).f0) == 4) = true := beq_iff_eq.mpr c5; have c5b1 : (((rd_T42 l0 x8_1).f0) != 4) = false := bne_eq_false_iff_eq.mpr c5; clear c5; replace H := Option.bind_eq_some_iff.mp H; obtain ⟨t103, A60, H⟩ := H; replace H : (term_depth.l0 k1 (mx x3_1 (wrap64 (1 + t103))) l0 (l0.length : Int) (wrap64 (x8_1 + 1))) = some r := H; have A6 := Aside0.mk A60; clear A60; obtain ⟨ji7, hji7⟩ : ∃ j_ : Int, (mx x3_1 (wrap64 (1 + t103))) = j_ := ⟨_, rfl⟩
              replace H : (term_depth.l0 k1 ji7 l0 (l0.length : Int) (wrap64 (x8_1 + 1))) = some r := by first | (rw [hji7] at H; exact H) | (simp only [hji7] at H ⊢; exact H)
              (try rw [hji7] at A6)
              have hji7_ : (if x3_1 < (wrap64 (1 + t103)) then (wrap64 (1 + t103)) else x3_1) = ji7 := hji7; have H' := Aside0.mk H; clear H; have p101 : 0 ≤ (x8_1 : Int) := of_decide_eq_true (by first | (with_reducible assumption) | assumption); have q101 : x8_1 < (l0.length : Int) := of_decide_eq_true (by first | (with_reducible assumption) | assumption); obtain ⟨ad101, A101_2, c101_2, e101, hx101_0, hx101_1, hx101_2, hl101_2, hi101_2⟩ := at_T42 HR0.out x8_1 p101 q101; cases e101; replace hx101_0 := (HB.out.cell (World.block_lt_of_cell? w _ hx101_0)).trans hx101_0; replace hx101_1 := (HB.out.cell (World.block_lt_of_cell? w _ hx101_1)).trans hx101_1; replace hx101_2 := (HB.out.cell (World.block_lt_of_cell? w _ hx101_2)).trans hx101_2; have HR101_2 := Aside0.mk hi101_2; have HC101_2 := Aside0.mk hl101_2; clear hi101_2 hl101_2; replace p101 := eq_true p101; replace q101 := eq_true q101
              go_wp2_with (first | ((with_reducible refine q22 (N := 5) rfl ?_); (try (refine gate_guard (by rfl) ?_; dsimp only)); refine q21 ?hg (N := 5) ?hd (cs := #[.int .i64 0, .string (⟨#[]⟩ : ByteArray), .slice none 0 0]) (t := 42) ?hr ?_; (case hd => rfl); (case hg => rfl); (case hr => first | (go_simp; done) | (go_simp; rfl)); intro gb102 hg w8 hbox hb; have n0_ := Aside0.mk (q14 (by repeat (first | (with_reducible first | exact HB.out | apply q11 | apply q9 | apply q10) | exact HB.out)) hb); have n1_ := Aside0.mk (hbox); have n2_ := Aside0.mk ((by rw [hg]; exact (q16 (by repeat (first | (with_reducible first | exact HB.out | apply q11 | apply q9 | apply q10) | exact HB.out))) : w.heap.size ≤ gb102)); have n3_ := Aside0.mk ((by rw [hg]; exact (q16 (by repeat (first | (with_reducible first | exact HB.out | apply q11 | apply q9 | apply q10) | exact HB.out))) : w.heap.size ≤ gb102)); clear HB; have HB := n0_; have BK102 := n1_; have GW102 := n2_; have GE102 := n3_; clear n0_ n1_ n2_ n3_; clear hb hbox hg; have hcz9_0 : w8.cell? ⟨gb102, 0, none⟩ = some (.int .i64 0) := (q5 BK102.out 0).trans rfl; have hcz9_1 : w8.cell? ⟨gb102, 1, none⟩ = some (.string (⟨#[]⟩ : ByteArray)) := (q5 BK102.out 1).trans rfl; have hcz9_2 : w8.cell? ⟨gb102, 2, none⟩ = some (.slice none 0 0) := (q5 BK102.out 2).trans rfl; have hfz9_0 := q13 BK102.out 0; have hfz9_1 := q13 BK102.out 1; have hfz9_2 := q13 BK102.out 2) | ((with_reducible refine q15 (f := 65) rfl ?_); refine goesL_ (some 29) rfl rfl Try.func65 (by kernel_rfl) rfl #[.slice A101_2 ((rd_T42 l0 x8_1).f2).length c101_2] rfl (by (try simp only [List.map_toArray, List.map_cons, List.map_nil]); first | done | rfl | (simp only [List.length_drop, List.length_take]; rfl)) ?_; (with_reducible refine (ih k1 (by have := HK1.out; omega) _ _ ((rd_T42 l0 x8_1).f2) t103 _ ?side1 ?side2 A6.out).mono ?_); (case side1 => exact Kd.C_below HR101_2.out (by repeat (first | (with_reducible first | exact HB.out | apply q11 | apply q9 | apply q10 | refine q17 ?_ GE102.out) | exact HB.out))); (case side2 => exact HC101_2.out); rintro e w10 ⟨rfl, hb⟩; refine ⟨_, rfl, ?_⟩; have n0_ := Aside0.mk (blk_below (g := gb102) (o := .cells #[.int .i64 ((rd_T42 l0 x8_1).f0), .string ((rd_T42 l0 x8_1).f1), .slice A101_2 ((rd_T42 l0 x8_1).f2).length c101_2] 42 (0, 0)) (by (with_reducible repeat (first | refine blk_drewN ?_ _ | refine blk_drew ?_ | refine q20 ?_ _)); refine blk_put (cs := #[.int .i64 ((rd_T42 l0 x8_1).f0), .string ((rd_T42 l0 x8_1).f1), .slice none 0 0]) ?_ 2 _ rfl; (with_reducible repeat (first | refine blk_drewN ?_ _ | refine blk_drew ?_ | refine q20 ?_ _)); refine blk_put (cs := #[.int .i64 ((rd_T42 l0 x8_1).f0), .string (⟨#[]⟩ : ByteArray), .slice none 0 0]) ?_ 1 _ rfl; (with_reducible repeat (first | refine blk_drewN ?_ _ | refine blk_drew ?_ | refine q20 ?_ _)); refine blk_put (cs := #[.int .i64 0, .string (⟨#[]⟩ : ByteArray), .slice none 0 0]) ?_ 0 _ rfl; (with_reducible repeat (first | refine blk_drewN ?_ _ | refine blk_drew ?_ | refine q20 ?_ _)); exact BK102.out) hb); have n1_ := Aside0.mk (q14 (by repeat (first | (with_reducible first | exact HB.out | apply q11 | apply q9 | apply q10 | refine q17 ?_ GE102.out) | exact HB.out)) hb); clear BK102; clear HB; have BK102 := n0_; have HB := n1_; clear n0_ n1_; (try clear hb); (try clear hb2); (try clear hk); (try clear hi)))
              go_roundg k1
              case measure => have := HK1.out; omega
              case rel => exact ⟨(ji7), (wrap64 (x8_1 + 1)), (by first | rfl | (simp; done) | (simp only [← hji7] <;> (first | rfl | simp)) | (simp [*]; done)), (by first | rfl | (simp; done) | (simp [*]; done)), H', ⟨by have := HK1.out; omega⟩, ⟨by repeat (first | (with_reducible first | exact HB.out | apply q11 | apply q9 | apply q10 | refine q17 ?_ GE102.out) | exact HB.out)⟩⟩
            · rw [if_neg c5] at H; have c5b0 : (((rd_T42 l0 x8_1).f0) == 4) = false := beq_eq_false_iff_ne.mpr c5; have c5b1 : (((rd_T42 l0 x8_1).f0) != 4) = true := bne_iff_ne.mpr c5
              by_cases c11 : ((rd_T42 l0 x8_1).f0) = 8
              · rw [if_pos c11] at H; have c11b0 : (((rd_T42 l0 x8_1).f0) == 8) = true := beq_iff_eq.mpr c11; have c11b1 : (((rd_T42 l0 x8_1).f0) != 8) = false := bne_eq_false_iff_eq.mpr c11; clear c11; replace H := Option.bind_eq_some_iff.mp H; obtain ⟨t104, A120, H⟩ := H; replace H : (term_depth.l0 k1 (mx x3_1 (wrap64 (1 + t104))) l0 (l0.length : Int) (wrap64 (x8_1 + 1))) = some r := H; have A12 := Aside0.mk A120; clear A120; obtain ⟨ji13, hji13⟩ : ∃ j_ : Int, (mx x3_1 (wrap64 (1 + t104))) = j_ := ⟨_, rfl⟩
                replace H : (term_depth.l0 k1 ji13 l0 (l0.length : Int) (wrap64 (x8_1 + 1))) = some r := by first | (rw [hji13] at H; exact H) | (simp only [hji13] at H ⊢; exact H)
                (try rw [hji13] at A12)
                have hji13_ : (if x3_1 < (wrap64 (1 + t104)) then (wrap64 (1 + t104)) else x3_1) = ji13 := hji13; have H' := Aside0.mk H; clear H; have p101 : 0 ≤ (x8_1 : Int) := of_decide_eq_true (by first | (with_reducible assumption) | assumption); have q101 : x8_1 < (l0.length : Int) := of_decide_eq_true (by first | (with_reducible assumption) | assumption); obtain ⟨ad101, A101_2, c101_2, e101, hx101_0, hx101_1, hx101_2, hl101_2, hi101_2⟩ := at_T42 HR0.out x8_1 p101 q101; cases e101; replace hx101_0 := (HB.out.cell (World.block_lt_of_cell? w _ hx101_0)).trans hx101_0; replace hx101_1 := (HB.out.cell (World.block_lt_of_cell? w _ hx101_1)).trans hx101_1; replace hx101_2 := (HB.out.cell (World.block_lt_of_cell? w _ hx101_2)).trans hx101_2; have HR101_2 := Aside0.mk hi101_2; have HC101_2 := Aside0.mk hl101_2; clear hi101_2 hl101_2; replace p101 := eq_true p101; replace q101 := eq_true q101
                go_wp2_with (first | ((with_reducible refine q22 (N := 5) rfl ?_); (try (refine gate_guard (by rfl) ?_; dsimp only)); refine q21 ?hg (N := 5) ?hd (cs := #[.int .i64 0, .string (⟨#[]⟩ : ByteArray), .slice none 0 0]) (t := 42) ?hr ?_; (case hd => rfl); (case hg => rfl); (case hr => first | (go_simp; done) | (go_simp; rfl)); intro gb102 hg w14 hbox hb; have n0_ := Aside0.mk (q14 (by repeat (first | (with_reducible first | exact HB.out | apply q11 | apply q9 | apply q10) | exact HB.out)) hb); have n1_ := Aside0.mk (hbox); have n2_ := Aside0.mk ((by rw [hg]; exact (q16 (by repeat (first | (with_reducible first | exact HB.out | apply q11 | apply q9 | apply q10) | exact HB.out))) : w.heap.size ≤ gb102)); have n3_ := Aside0.mk ((by rw [hg]; exact (q16 (by repeat (first | (with_reducible first | exact HB.out | apply q11 | apply q9 | apply q10) | exact HB.out))) : w.heap.size ≤ gb102)); clear HB; have HB := n0_; have BK102 := n1_; have GW102 := n2_; have GE102 := n3_; clear n0_ n1_ n2_ n3_; clear hb hbox hg; have hcz15_0 : w14.cell? ⟨gb102, 0, none⟩ = some (.int .i64 0) := (q5 BK102.out 0).trans rfl; have hcz15_1 : w14.cell? ⟨gb102, 1, none⟩ = some (.string (⟨#[]⟩ : ByteArray)) := (q5 BK102.out 1).trans rfl; have hcz15_2 : w14.cell? ⟨gb102, 2, none⟩ = some (.slice none 0 0) := (q5 BK102.out 2).trans rfl; have hfz15_0 := q13 BK102.out 0; have hfz15_1 := q13 BK102.out 1; have hfz15_2 := q13 BK102.out 2) | ((with_reducible refine q15 (f := 65) rfl ?_); refine goesL_ (some 29) rfl rfl Try.func65 (by kernel_rfl) rfl #[.slice A101_2 ((rd_T42 l0 x8_1).f2).length c101_2] rfl (by (try simp only [List.map_toArray, List.map_cons, List.map_nil]); first | done | rfl | (simp only [List.length_drop, List.length_take]; rfl)) ?_; (with_reducible refine (ih k1 (by have := HK1.out; omega) _ _ ((rd_T42 l0 x8_1).f2) t104 _ ?side1 ?side2 A12.out).mono ?_); (case side1 => exact Kd.C_below HR101_2.out (by repeat (first | (with_reducible first | exact HB.out | apply q11 | apply q9 | apply q10 | refine q17 ?_ GE102.out) | exact HB.out))); (case side2 => exact HC101_2.out); rintro e w16 ⟨rfl, hb⟩; refine ⟨_, rfl, ?_⟩; have n0_ := Aside0.mk (blk_below (g := gb102) (o := .cells #[.int .i64 ((rd_T42 l0 x8_1).f0), .string ((rd_T42 l0 x8_1).f1), .slice A101_2 ((rd_T42 l0 x8_1).f2).length c101_2] 42 (0, 0)) (by (with_reducible repeat (first | refine blk_drewN ?_ _ | refine blk_drew ?_ | refine q20 ?_ _)); refine blk_put (cs := #[.int .i64 ((rd_T42 l0 x8_1).f0), .string ((rd_T42 l0 x8_1).f1), .slice none 0 0]) ?_ 2 _ rfl; (with_reducible repeat (first | refine blk_drewN ?_ _ | refine blk_drew ?_ | refine q20 ?_ _)); refine blk_put (cs := #[.int .i64 ((rd_T42 l0 x8_1).f0), .string (⟨#[]⟩ : ByteArray), .slice none 0 0]) ?_ 1 _ rfl; (with_reducible repeat (first | refine blk_drewN ?_ _ | refine blk_drew ?_ | refine q20 ?_ _)); refine blk_put (cs := #[.int .i64 0, .string (⟨#[]⟩ : ByteArray), .slice none 0 0]) ?_ 0 _ rfl; (with_reducible repeat (first | refine blk_drewN ?_ _ | refine blk_drew ?_ | refine q20 ?_ _)); exact BK102.out) hb); have n1_ := Aside0.mk (q14 (by repeat (first | (with_reducible first | exact HB.out | apply q11 | apply q9 | apply q10 | refine q17 ?_ GE102.out) | exact HB.out)) hb); clear BK102; clear HB; have BK102 := n0_; have HB := n1_; clear n0_ n1_; (try clear hb); (try clear hb2); (try clear hk); (try clear hi)))
                go_roundg k1
                case measure => have := HK1.out; omega
                case rel => exact ⟨(ji13), (wrap64 (x8_1 + 1)), (by first | rfl | (simp; done) | (simp only [← hji13] <;> (first | rfl | simp)) | (simp [*]; done)), (by first | rfl | (simp; done) | (simp [*]; done)), H', ⟨by have := HK1.out; omega⟩, ⟨by repeat (first | (with_reducible first | exact HB.out | apply q11 | apply q9 | apply q10 | refine q17 ?_ GE102.out) | exact HB.out)⟩⟩
              · rw [if_neg c11] at H; have c11b0 : (((rd_T42 l0 x8_1).f0) == 8) = false := beq_eq_false_iff_ne.mpr c11; have c11b1 : (((rd_T42 l0 x8_1).f0) != 8) = true := bne_iff_ne.mpr c11
                by_cases c17 : (((rd_T42 l0 x8_1).f2).length : Int) > 0
                · rw [if_pos c17] at H; have c17b0 : decide (0 < (((rd_T42 l0 x8_1).f2).length : Int)) = true := decide_eq_true c17; have c17b1 : decide (0 < ((rd_T42 l0 x8_1).f2).length) = true := decide_eq_true (by omega); clear c17; replace H := Option.bind_eq_some_iff.mp H; obtain ⟨t105, A180, H⟩ := H; replace H : (term_depth.l0 k1 (mx x3_1 (wrap64 (1 + t105))) l0 (l0.length : Int) (wrap64 (x8_1 + 1))) = some r := H; have A18 := Aside0.mk A180; clear A180; obtain ⟨ji19, hji19⟩ : ∃ j_ : Int, (mx x3_1 (wrap64 (1 + t105))) = j_ := ⟨_, rfl⟩
                  replace H : (term_depth.l0 k1 ji19 l0 (l0.length : Int) (wrap64 (x8_1 + 1))) = some r := by first | (rw [hji19] at H; exact H) | (simp only [hji19] at H ⊢; exact H)
                  (try rw [hji19] at A18)
                  have hji19_ : (if x3_1 < (wrap64 (1 + t105)) then (wrap64 (1 + t105)) else x3_1) = ji19 := hji19; have H' := Aside0.mk H; clear H; have p101 : 0 ≤ (x8_1 : Int) := of_decide_eq_true (by first | (with_reducible assumption) | assumption); have q101 : x8_1 < (l0.length : Int) := of_decide_eq_true (by first | (with_reducible assumption) | assumption); obtain ⟨ad101, A101_2, c101_2, e101, hx101_0, hx101_1, hx101_2, hl101_2, hi101_2⟩ := at_T42 HR0.out x8_1 p101 q101; cases e101; replace hx101_0 := (HB.out.cell (World.block_lt_of_cell? w _ hx101_0)).trans hx101_0; replace hx101_1 := (HB.out.cell (World.block_lt_of_cell? w _ hx101_1)).trans hx101_1; replace hx101_2 := (HB.out.cell (World.block_lt_of_cell? w _ hx101_2)).trans hx101_2; have HR101_2 := Aside0.mk hi101_2; have HC101_2 := Aside0.mk hl101_2; clear hi101_2 hl101_2; replace p101 := eq_true p101; replace q101 := eq_true q101
                  go_wp2_with (first | ((with_reducible refine q22 (N := 5) rfl ?_); (try (refine gate_guard (by rfl) ?_; dsimp only)); refine q21 ?hg (N := 5) ?hd (cs := #[.int .i64 0, .string (⟨#[]⟩ : ByteArray), .slice none 0 0]) (t := 42) ?hr ?_; (case hd => rfl); (case hg => rfl); (case hr => first | (go_simp; done) | (go_simp; rfl)); intro gb102 hg w20 hbox hb; have n0_ := Aside0.mk (q14 (by repeat (first | (with_reducible first | exact HB.out | apply q11 | apply q9 | apply q10) | exact HB.out)) hb); have n1_ := Aside0.mk (hbox); have n2_ := Aside0.mk ((by rw [hg]; exact (q16 (by repeat (first | (with_reducible first | exact HB.out | apply q11 | apply q9 | apply q10) | exact HB.out))) : w.heap.size ≤ gb102)); have n3_ := Aside0.mk ((by rw [hg]; exact (q16 (by repeat (first | (with_reducible first | exact HB.out | apply q11 | apply q9 | apply q10) | exact HB.out))) : w.heap.size ≤ gb102)); clear HB; have HB := n0_; have BK102 := n1_; have GW102 := n2_; have GE102 := n3_; clear n0_ n1_ n2_ n3_; clear hb hbox hg; have hcz21_0 : w20.cell? ⟨gb102, 0, none⟩ = some (.int .i64 0) := (q5 BK102.out 0).trans rfl; have hcz21_1 : w20.cell? ⟨gb102, 1, none⟩ = some (.string (⟨#[]⟩ : ByteArray)) := (q5 BK102.out 1).trans rfl; have hcz21_2 : w20.cell? ⟨gb102, 2, none⟩ = some (.slice none 0 0) := (q5 BK102.out 2).trans rfl; have hfz21_0 := q13 BK102.out 0; have hfz21_1 := q13 BK102.out 1; have hfz21_2 := q13 BK102.out 2) | ((with_reducible refine q15 (f := 65) rfl ?_); refine goesL_ (some 29) rfl rfl Try.func65 (by kernel_rfl) rfl #[.slice A101_2 ((rd_T42 l0 x8_1).f2).length c101_2] rfl (by (try simp only [List.map_toArray, List.map_cons, List.map_nil]); first | done | rfl | (simp only [List.length_drop, List.length_take]; rfl)) ?_; (with_reducible refine (ih k1 (by have := HK1.out; omega) _ _ ((rd_T42 l0 x8_1).f2) t105 _ ?side1 ?side2 A18.out).mono ?_); (case side1 => exact Kd.C_below HR101_2.out (by repeat (first | (with_reducible first | exact HB.out | apply q11 | apply q9 | apply q10 | refine q17 ?_ GE102.out) | exact HB.out))); (case side2 => exact HC101_2.out); rintro e w22 ⟨rfl, hb⟩; refine ⟨_, rfl, ?_⟩; have n0_ := Aside0.mk (blk_below (g := gb102) (o := .cells #[.int .i64 ((rd_T42 l0 x8_1).f0), .string ((rd_T42 l0 x8_1).f1), .slice A101_2 ((rd_T42 l0 x8_1).f2).length c101_2] 42 (0, 0)) (by (with_reducible repeat (first | refine blk_drewN ?_ _ | refine blk_drew ?_ | refine q20 ?_ _)); refine blk_put (cs := #[.int .i64 ((rd_T42 l0 x8_1).f0), .string ((rd_T42 l0 x8_1).f1), .slice none 0 0]) ?_ 2 _ rfl; (with_reducible repeat (first | refine blk_drewN ?_ _ | refine blk_drew ?_ | refine q20 ?_ _)); refine blk_put (cs := #[.int .i64 ((rd_T42 l0 x8_1).f0), .string (⟨#[]⟩ : ByteArray), .slice none 0 0]) ?_ 1 _ rfl; (with_reducible repeat (first | refine blk_drewN ?_ _ | refine blk_drew ?_ | refine q20 ?_ _)); refine blk_put (cs := #[.int .i64 0, .string (⟨#[]⟩ : ByteArray), .slice none 0 0]) ?_ 0 _ rfl; (with_reducible repeat (first | refine blk_drewN ?_ _ | refine blk_drew ?_ | refine q20 ?_ _)); exact BK102.out) hb); have n1_ := Aside0.mk (q14 (by repeat (first | (with_reducible first | exact HB.out | apply q11 | apply q9 | apply q10 | refine q17 ?_ GE102.out) | exact HB.out)) hb); clear BK102; clear HB; have BK102 := n0_; have HB := n1_; clear n0_ n1_; (try clear hb); (try clear hb2); (try clear hk); (try clear hi)))
                  go_roundg k1
                  case measure => have := HK1.out; omega
                  case rel => exact ⟨(ji19), (wrap64 (x8_1 + 1)), (by first | rfl | (simp; done) | (simp only [← hji19] <;> (first | rfl | simp)) | (simp [*]; done)), (by first | rfl | (simp; done) | (simp [*]; done)), H', ⟨by have := HK1.out; omega⟩, ⟨by repeat (first | (with_reducible first | exact HB.out | apply q11 | apply q9 | apply q10 | refine q17 ?_ GE102.out) | exact HB.out)⟩⟩
                · rw [if_neg c17] at H; have c17b0 : decide (0 < (((rd_T42 l0 x8_1).f2).length : Int)) = false := decide_eq_false c17; have c17b1 : decide (0 < ((rd_T42 l0 x8_1).f2).length) = false := decide_eq_false (by omega); clear c17; have H' := Aside0.mk H; clear H; have p101 : 0 ≤ (x8_1 : Int) := of_decide_eq_true (by first | (with_reducible assumption) | assumption); have q101 : x8_1 < (l0.length : Int) := of_decide_eq_true (by first | (with_reducible assumption) | assumption); obtain ⟨ad101, A101_2, c101_2, e101, hx101_0, hx101_1, hx101_2, hl101_2, hi101_2⟩ := at_T42 HR0.out x8_1 p101 q101; cases e101; replace hx101_0 := (HB.out.cell (World.block_lt_of_cell? w _ hx101_0)).trans hx101_0; replace hx101_1 := (HB.out.cell (World.block_lt_of_cell? w _ hx101_1)).trans hx101_1; replace hx101_2 := (HB.out.cell (World.block_lt_of_cell? w _ hx101_2)).trans hx101_2; have HR101_2 := Aside0.mk hi101_2; have HC101_2 := Aside0.mk hl101_2; clear hi101_2 hl101_2; replace p101 := eq_true p101; replace q101 := eq_true q101
                  go_wp2_with (first | ((with_reducible refine q22 (N := 5) rfl ?_); (try (refine gate_guard (by rfl) ?_; dsimp only)); refine q21 ?hg (N := 5) ?hd (cs := #[.int .i64 0, .string (⟨#[]⟩ : ByteArray), .slice none 0 0]) (t := 42) ?hr ?_; (case hd => rfl); (case hg => rfl); (case hr => first | (go_simp; done) | (go_simp; rfl)); intro gb102 hg w23 hbox hb; have n0_ := Aside0.mk (q14 (by repeat (first | (with_reducible first | exact HB.out | apply q11 | apply q9 | apply q10) | exact HB.out)) hb); have n1_ := Aside0.mk (hbox); have n2_ := Aside0.mk ((by rw [hg]; exact (q16 (by repeat (first | (with_reducible first | exact HB.out | apply q11 | apply q9 | apply q10) | exact HB.out))) : w.heap.size ≤ gb102)); have n3_ := Aside0.mk ((by rw [hg]; exact (q16 (by repeat (first | (with_reducible first | exact HB.out | apply q11 | apply q9 | apply q10) | exact HB.out))) : w.heap.size ≤ gb102)); clear HB; have HB := n0_; have BK102 := n1_; have GW102 := n2_; have GE102 := n3_; clear n0_ n1_ n2_ n3_; clear hb hbox hg; have hcz24_0 : w23.cell? ⟨gb102, 0, none⟩ = some (.int .i64 0) := (q5 BK102.out 0).trans rfl; have hcz24_1 : w23.cell? ⟨gb102, 1, none⟩ = some (.string (⟨#[]⟩ : ByteArray)) := (q5 BK102.out 1).trans rfl; have hcz24_2 : w23.cell? ⟨gb102, 2, none⟩ = some (.slice none 0 0) := (q5 BK102.out 2).trans rfl; have hfz24_0 := q13 BK102.out 0; have hfz24_1 := q13 BK102.out 1; have hfz24_2 := q13 BK102.out 2))
                  go_roundg k1
                  case measure => have := HK1.out; omega
                  case rel => exact ⟨(x3_1), (wrap64 (x8_1 + 1)), (by first | rfl | (simp; done) | (simp [*]; done)), (by first | rfl | (simp; done) | (simp [*]; done)), H', ⟨by have := HK1.out; omega⟩, ⟨by repeat (first | (with_reducible first | exact HB.out | apply q11 | apply q9 | apply q10 | refine q17 ?_ GE102.out) | exact HB.out)⟩⟩
          · rw [if_neg c4] at H; exact absurd H (by simp)
        · rw [if_neg c3] at H; exact absurd H (by simp)
      · rw [if_neg c2] at H; have c2b0 : decide (x8_1 < (l0.length : Int)) = false := decide_eq_false c2; clear c2; obtain rfl := Option.some.inj H
        go_wp2
        go_ret; exact ⟨by first | rfl | (simp [errW_none, errW_some] <;> rfl) | (simp [*, errW_none, errW_some] <;> rfl), by repeat (first | (with_reducible first | exact HB.out | apply q11 | apply q9 | apply q10) | exact HB.out)⟩
end Go.Proofs.Ytdbjjaodkapikaa.TE
end
