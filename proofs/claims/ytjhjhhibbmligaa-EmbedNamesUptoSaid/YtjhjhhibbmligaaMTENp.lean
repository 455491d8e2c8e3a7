/- Names, plain: other names and symbols change no embedding; a stack and the calls; a stack and itself. -/
import Derived.Test.YtjhjhhibbmligaaMTEIx
import Derived.Test.YtjhjhhibbmligaaMTERs
import Derived.OwnWalkIn
import Derived.TacticsInMore
import Derived.LoopNIn
import Derived.LoopIn
import Derived.ArgAppend
import Derived.Test.YtjhjhhibbmligaaMTEParts4
import Derived.Test.YtjhjhhibbmligaaMTENd
import Derived.Test.YtjhjhhibbmligaaMTEx11
section
namespace Go.Proofs.Ytjhjhhibbmligaa.TE
open Go.RowKit Go.Shelf Go.Proofs.YtjhjhhibbmligaaW.PrintWords Go.Proofs.YtjhjhhibbmligaaW.PrintLast Go.Proofs.YtjhjhhibbmligaaW.PrintMore Go.Proofs.Ytjhjhhibbmligaa.Evs
set_option linter.unusedVariables false
set_option linter.unusedSimpArgs false
section
attribute [local go_sem] Oper.semAt_some
def act (l : List Tm) : Option (List Int) := go l 0
where go (l : List Tm) (i : Nat) : Option (List Int) :=
  match l with
  | [] => none
  | t :: r =>
    match go t.f2 0 with
    | some p => some ((i : Int) :: p)
    | none => if t.f0 = 8 then some [(i : Int)] else go r (i + 1)
  termination_by SizeOf.sizeOf l
  decreasing_by all_goals (cases t; simp; omega)
theorem act_cons (t : Tm) (r : List Tm) (i : Nat) : act.go (t :: r) i = match act t.f2 with | some p => some ((i : Int) :: p) | none => if t.f0 = 8 then some [(i : Int)] else act.go r (i + 1) := by rw [act.go, act]
theorem act_nil (i : Nat) : act.go [] i = none := by rw [act.go]
structure It where
  path : List Int
  pv : Value
  x : Tm
  A : Option Addr
  c : Nat
def It.enc (y : It) : Array Value := #[y.pv, .agg #[.int .i64 y.x.f0, .string y.x.f1, .slice y.A y.x.f2.length y.c]]
def It.fx (y : It) (W : World) : Prop := W.ownsRow 0 3 1 y.pv y.path.length (y.path.map (Value.int .i64 ·)) ∧ y.path.length ≤ 1099511627776
theorem wpListIn_append_full {F : Fence} {n : Nat} {P : Program} (w : World) {ops : Array Oper} {rest : List Oper} {o : Oper} {a : Act} {Q : Exit → Act → World → Prop}
    (hg : o.guard = none) (s x : Operand) (t : TypeId) (hop : o.op = Op.call { callee := Callee.builtin Builtin.append, args := #[s, x], argTypes := #[t, t] })
    (e : TypeId) (i : TypeInfo) (z : Value) (size bytes : Nat) (h1 : P.underlying t = some (.slice e)) (h2 : P.info? e = some i) (h3 : i.zero = some z) (h4 : i.size = size) (h5 : i.bytes = bytes) (h6 : z.cells.size = size) (h7 : 0 < size)
    (ao : Option Addr) (k : Nat) (olds : List Value) (hs : a.eval s = .slice ao k k) (hnone : ao = none → k = 0) (hlo : olds.length = k * size) (holds : ∀ b, ao = some b → ∀ j u, olds[j]? = some u → w.cell? (b.add j) = some u)
    (ad : Addr) (m c : Nat) (news : List Value) (hx : a.eval x = .slice (some ad) m c) (hm : 0 < m) (hn : news.length = m * size) (hc : ∀ j u, news[j]? = some u → w.cell? (ad.add j) = some u) (h1c : ∀ u ∈ news, u.oneCell' = true)
    (b1 : k + m ≤ maxLen) (b2 : (k + m) * bytes ≤ 140737488355328)
    (hK : ∀ v' w', w'.ownsRow w.heap.size e size v' (k + m) (olds ++ news) → w.grownBy w' none → wpListIn F n P ops Q rest (a.put o.dst v') w') :
    wpListIn F n P ops Q (o :: rest) a w := by
  refine wpListIn_plain hg fun K hK' => ?_
  have hr : ∃ v' w', (Builtin.append_ #[t, t] o.type #[.slice ao k k, .slice (some ad) m c]).run P w = .ok v' w' ∧ w'.ownsRow w.heap.size e size v' (k + m) (olds ++ news) ∧ w.grownBy w' none := by
    cases ao with
    | some b => exact run_append_arg_grows (P := P) w t o.type e i z size bytes h1 h2 h3 h4 h5 h6 h7 b k k olds hlo (holds b rfl) ad m c news hn hc (by omega) b1 b2
    | none =>
      obtain rfl := hnone rfl; obtain rfl : olds = [] := List.eq_nil_of_length_eq_zero (by simpa using hlo); obtain ⟨v', w', hrun, r1, r2, _⟩ := run_append_own (P := P) w w.heap.size t o.type e i z size bytes h1 h2 h3 h4 h5 h6 h7 (.slice none 0 0) 0 [] (World.ownsRow_nil w _ e size) ad m c news hn hc h1c b1 b2 (Nat.le_refl _); exact ⟨v', w', hrun, r1, r2⟩
  obtain ⟨v', w', hrun, r1, r2⟩ := hr; unfold Oper.wpIn; refine ⟨?_, ?_⟩
  · simp [Oper.about, hop, resolve, Target.leads, Sem.run_pure]
  · rw [Oper.semAt_plain F _ _ (by rw [hop]; intro c hc'; cases hc')]; simp [execOp, hop, resolve, invoke, builtin, hs, hx, hrun, Result.andThen]; exact hK' _ _ (hK v' w' r1 r2)
set_option maxRecDepth 100000 in
set_option maxHeartbeats 4000000 in
theorem fwalk (w0 : World) (lp by_ bw H n : Nat) (J : World → Prop) (Jx : It → World → Prop) (hJ : ∀ A B, J A → Below A.heap.size A B → H ≤ A.heap.size → J B)
    (hY : ∀ y W, J W → y.fx W → YieldAt Fence.wide n Try.prog lp y.enc W fun e W' => e = .returned (.bool false) ∧ Jx y W') :
    ∀ (k : Nat) (A : Option Addr) (c : Nat) (l : List Tm) (pv : Value) (path : List Int) (W : World), SizeOf.sizeOf l ≤ k → Kd.C k42 w0 A l.length l → l.length ≤ c → Below w0.heap.size w0 W → H ≤ W.heap.size →
      W.heap[by_]? = some (.cells #[.func (.yield lp) #[] #[]] 197 (0, 0)) → W.heap[bw]? = some (.cells #[.func (.func 183) #[] #[.pointer (some ⟨bw, 0, none⟩), .pointer (some ⟨by_, 0, none⟩)]] 198 (0, 0)) →
      J W → W.ownsRow 0 3 1 pv path.length (path.map (Value.int .i64 ·)) → path.length + (flat l).length ≤ 1099511627776 →
      CallsIn Fence.wide n Try.prog 183 #[.slice A l.length c, pv, .pointer (some ⟨bw, 0, none⟩), .pointer (some ⟨by_, 0, none⟩)] W fun e W' =>
        (act l = none ∧ e = .returned (.tuple #[.bool false, .bool true]) ∧ Below W.heap.size W W') ∨
        (e = .returned (.tuple #[.bool true, .bool false]) ∧ ∃ y : It, (∃ p, act l = some p ∧ y.path = path ++ p) ∧ Jx y W') := by
  intro k
  induction k with
  | zero => intro A c l pv path W hk; cases l <;> simp at hk
  | succ k ih =>
    intro A c l pv path W hk hC hc hB hH hy0 hw0 hj hp hbd; have hu42 := Try.underlying42; have hmax := Kd.C_max hC; obtain ⟨pa, pc, rfl⟩ := own_formN hp
    have hno : pa = none → path.length = 0 := fun e => by
      rcases hp.2 with ⟨_, h⟩ | ⟨b, cap, cur, e2, _⟩
      · exact h
      · rw [e] at e2; injection e2 with e2; cases e2
    have hho : ∀ b, pa = some b → ∀ j u, (path.map (Value.int .i64 ·))[j]? = some u → W.cell? (b.add j) = some u := fun b e j u hj => by
      rcases hp.2 with ⟨h, _⟩ | ⟨g, cap, cur, e2, _⟩
      · rw [e] at h; injection h with h; cases h
      · rw [e] at e2; injection e2 with e2 e3 e4; injection e2 with e2; subst e2; subst e; exact hp.cells rfl j u hj
    have hpcc : (path.length : Int) ≤ (pc : Int) := by
      rcases hp.2 with ⟨_, h⟩ | ⟨b, cap, cur, e2, _, _, h, _⟩
      · omega
      · injection e2 with _ _ e4; omega
    have HNO := Aside0.mk hno; have HHO := Aside0.mk hho; obtain ⟨i0, hi, hz0, hz1, hz2⟩ := info_parts info_intE; have HI := Aside0.mk (And.intro hi (And.intro hz0 (And.intro hz1 hz2))); have HC := Aside0.mk hC; have HB := Aside0.mk hB; have HY0 := Aside0.mk hy0; have HW0 := Aside0.mk hw0; have HJ0 := Aside0.mk hj; have HK := Aside0.mk hk; have HBD := Aside0.mk hbd; clear hp hC hB hy0 hw0 hj hk hbd hno hho hi hz0 hz1 hz2; refine callsIn_of_wp Try.func183 rfl trivial ?_ rfl; simp only [Try.ntmps183, List.size_toArray, List.length_cons, List.length_nil, Nat.reduceAdd, Nat.reduceSub, Array.replicate_succ, Array.replicate_zero, List.push_toArray, List.append_toArray, List.nil_append, List.cons_append]
    gi_wp2
    gi_loopw [6, 15] (fun v6 i wr => ∃ q : Nat, v6 = .bool false ∧ i = .int .i64 q ∧ q ≤ l.length ∧ Aside0 (act l = act.go (l.drop q) q) ∧ Aside0 (Below W.heap.size W wr)) (fun v6 i wr => l.length - (intOf i).toNat)
    case atStart => exact ⟨0, rfl, rfl, Nat.zero_le _, ⟨by rw [List.drop_zero]; rfl⟩, ⟨Below.refl _ _⟩⟩
    case round =>
      obtain ⟨q, rfl, rfl, hq, HA, HBr⟩ := hrel; have hbr : Below w0.heap.size w0 wr := q12 HB.out HBr.out
      by_cases hlt : q < l.length
      · obtain ⟨ad, A2, c2, rfl, hx0, hx1, hx2, hl2, hr2⟩ := at_T42 HC.out (q : Int) (by omega) (by omega)
        have hrd : rd_T42 l (q : Int) = l[q] := by simp [rd_T42, List.getD_eq_getElem?_getD, List.getElem?_eq_getElem hlt]
        rw [hrd] at hx0 hx1 hx2 hl2 hr2; rw [Int.toNat_natCast] at hx0 hx1 hx2; have hsz := sizeOf_kids' l q hlt
        have hac : act.go (l.drop q) q = match act l[q].f2 with | some p => some ((q : Int) :: p) | none => if l[q].f0 = 8 then some [(q : Int)] else act.go (l.drop (q + 1)) (q + 1) := by rw [List.drop_eq_getElem_cons hlt, act_cons]
        obtain ⟨x, hxx⟩ : ∃ x, l[q] = x := ⟨_, rfl⟩; rw [hxx] at hx0 hx1 hx2 hl2 hr2 hsz hac; replace hx0 := (hbr.cell (World.block_lt_of_cell? w0 _ hx0)).trans hx0; replace hx1 := (hbr.cell (World.block_lt_of_cell? w0 _ hx1)).trans hx1; replace hx2 := (hbr.cell (World.block_lt_of_cell? w0 _ hx2)).trans hx2
        have hsk : SizeOf.sizeOf x.f2 ≤ k := by have := HK.out; omega
        have hsb : path.length + 1 + (flat x.f2).length ≤ 1099511627776 := by
          have h0 := HBD.out; have h1 := flat_take_succ l q hlt; have h2 := flat_take_le l (q + 1); rw [h1, hxx, List.length_append, List.length_cons] at h2
          omega
        have hlb : decide ((q : Int) < (l.length : Int)) = true := by simp; omega
        have hn0 : (0 : Int) ≤ (path.length : Int) := Int.natCast_nonneg _; have hbk : Below wr.heap.size wr (wr.alloc (.cells #[.int .i64 x.f0, .string x.f1, .slice A2 x.f2.length c2] 42)) := (Below.refl _ _).alloc (Nat.le_refl _) _; have hkt := World.alloc_heap_new wr (.cells #[.int .i64 x.f0, .string x.f1, .slice A2 x.f2.length c2] 42); have HAC := Aside0.mk hac; have HX := Aside0.mk hxx; have HSK := Aside0.mk hsk; have HSB := Aside0.mk hsb; have HR2 := Aside0.mk hr2; have HL2 := Aside0.mk hl2; have HBK := Aside0.mk hbk; have HKT := Aside0.mk hkt; clear hac hxx hsk hsb hr2 hl2 hbk hkt hsz hrd
        have hdd : ∀ k : Nat, (Fence.wide.depth.isSome = true → 1 ≤ k) := fun k h => by simp [Fence.wide] at h
        have hpl : path.length ≤ 1099511627776 := by have := HSB.out; omega
        have HPL := Aside0.mk hpl; have hcn := cell_one_new (wr.alloc (.cells #[.int .i64 x.f0, .string x.f1, .slice A2 x.f2.length c2] 42)) (.int .i64 q) 3; rw [World.size_alloc] at hcn; have HCN := Aside0.mk hcn; clear hpl hcn
        gi_wp2_with (gi_at_builtin; refine wpListIn_append_full _ rfl (.tmp 25) (.tmp 27) 43 rfl 3 i0 (.int .i64 0) 1 8 Try.underlying43 HI.out.1 HI.out.2.1 HI.out.2.2.1 HI.out.2.2.2 rfl (by decide) _ path.length (path.map (Value.int .i64 ·)) rfl HNO.out (by simp) (fun b e j u hj => pw_cell_below (below_al (below_al HBr.out _) _) (HHO.out b e j u hj)) ⟨_, 0, none⟩ 1 1 [.int .i64 q] rfl (by decide) rfl HCN.out (by simp [Value.oneCell']) (by have := HPL.out; simp only [maxLen]; omega) (by have := HPL.out; omega) ?_; intro v7 w7 ho7 hg7; have HO7 := Aside0.mk ho7; have hb7 : Below W.heap.size W w7 := (below_al (below_al HBr.out _) _).grown hg7 (below_al (below_al HBr.out _) _).size (fun k e => (by cases e)); have hkt7 : w7.heap[wr.heap.size]? = _ := (hg7.block wr.heap.size (by simp; omega) (fun e => (by cases e))).trans ((Below.heap_alloc _ _ _ (by simp)).trans HKT.out); have HKT7 := Aside0.mk hkt7; have HB7 := Aside0.mk hb7; have HCALL := Aside0.mk (ih A2 c2 x.f2 v7 (path ++ [(q : Int)]) w7 HSK.out HR2.out HL2.out (q12 HB.out hb7) (Nat.le_trans hH hb7.size) (q13 HY0.out hb7) (q13 HW0.out hb7) (hJ W w7 HJ0.out hb7 hH) (by rw [List.map_append, List.length_append]; exact own_base0 ho7) (by rw [List.length_append]; exact HSB.out)); have cw : w7.cell? ⟨bw, 0, none⟩ = _ := (q4 (q13 HW0.out hb7) 0).trans rfl; have ct2 : w7.cell? ⟨wr.heap.size, 2, none⟩ = some (.slice A2 x.f2.length c2) := (q4 hkt7 2).trans rfl; clear ho7 hg7 hb7 hkt7 ih)
        refine ⟨trivial, hdd _, (calls_any HCALL.out).mono ?_⟩; rintro e w8 (⟨ha, rfl, hb8⟩ | ⟨rfl, y, ⟨p, hp, hyp⟩, hjx⟩)
        · have hB8 : Below W.heap.size W w8 := q12 HB7.out hb8; have hkt8 := q13 HKT7.out hb8; have d0 : w8.cell? ⟨wr.heap.size, 0, none⟩ = some (.int .i64 x.f0) := (q4 hkt8 0).trans rfl; have d1 : w8.cell? ⟨wr.heap.size, 1, none⟩ = some (.string x.f1) := (q4 hkt8 1).trans rfl; have d2 : w8.cell? ⟨wr.heap.size, 2, none⟩ = some (.slice A2 x.f2.length c2) := (q4 hkt8 2).trans rfl; have dy : w8.cell? ⟨by_, 0, none⟩ = _ := (q4 (q13 HY0.out hB8) 0).trans rfl; have HA8 := Aside0.mk ha; have HB8 := Aside0.mk hB8; have HO8 := Aside0.mk (own_below0 (own_base0 HO7.out) hb8); clear ha hB8 hkt8 hb8 cw ct2
          by_cases h8 : x.f0 = 8
          · have e8 : (x.f0 == 8) = true := by simp [h8]
            have hact : act l = some [(q : Int)] := by rw [HA.out, HAC.out, HA8.out]; simp [h8]
            have HACT := Aside0.mk hact; obtain ⟨fn, tmps, assign, body, hyr, hR⟩ := hY ⟨path ++ [(q : Int)], v7, x, A2, c2⟩ w8 (hJ W w8 HJ0.out HB8.out hH) (by unfold It.fx; rw [List.map_append, List.length_append]; exact ⟨HO8.out, by have := HSB.out; simp; omega⟩)
            dsimp only [It.enc] at hyr
            clear hact h8
            gi_wp2_with ((try refine ⟨hdd _, ?_⟩); refine (round_any hR).mono ?_; clear hR; rintro e W2 ⟨rfl, hjx⟩)
            clear hyr; have HJX := Aside0.mk hjx; clear hjx
            gi_wp2
            go_ret2
            exact .inr ⟨rfl, _, ⟨_, HACT.out, rfl⟩, HJX.out⟩
          · have e8 : (x.f0 == 8) = false := by simp [h8]
            have hact : act l = act.go (l.drop (q + 1)) (q + 1) := by rw [HA.out, HAC.out, HA8.out]; simp [h8]
            have HACT := Aside0.mk hact; clear hact h8
            gi_wp2
            refine ⟨fun _ h => (by cases h), ?_⟩
            gi_wp2
            go_roundw
            case rel => exact ⟨q + 1, rfl, by go_num, by omega, HACT, HB8⟩
            case measure => simp [intOf]; omega
        · have HJX := Aside0.mk hjx; have HACT : Aside0 (act l = some ((q : Int) :: p)) := ⟨by rw [HA.out, HAC.out, hp]⟩; have HYP := Aside0.mk hyp; clear hjx hp hyp cw ct2
          gi_wp2_with (rw [if_neg (by simp [undef])])
          refine ⟨fun _ h => (by cases h), ?_⟩
          gi_wp2
          go_ret2
          exact .inr ⟨rfl, y, ⟨_, HACT.out, by rw [HYP.out, List.append_assoc]; rfl⟩, HJX.out⟩
      · obtain rfl : q = l.length := by omega
        have hlb : decide ((l.length : Int) < (l.length : Int)) = false := by simp
        gi_wp2
        go_ret2
        exact .inl ⟨by rw [HA.out, List.drop_length, act_nil], rfl, HBr.out⟩
end
end Go.Proofs.Ytjhjhhibbmligaa.TE
end
section
namespace Go.Proofs.Ytjhjhhibbmligaa.TE
open Go.RowKit Go.Shelf Go.Proofs.YtjhjhhibbmligaaW.PrintWords Go.Proofs.YtjhjhhibbmligaaW.PrintLast Go.Proofs.YtjhjhhibbmligaaW.PrintMore Go.Proofs.Ytjhjhhibbmligaa.Evs
set_option linter.unusedVariables false
set_option linter.unusedSimpArgs false
section
attribute [local go_sem] Oper.semAt_some
theorem enters_fp : ∀ args w, (callFunc 182 args).run Try.prog w = .ok (.enter 182 args) w := enters_of Try.func182 (by kernel_rfl) rfl
theorem own_walks {W W' : World} {base n e z : Nat} {v : Value} {xs : List Value} {row : Option Nat} {B : Nat} (h : W.ownsRow base e z v n xs) (hg : W.grownBy W' row) (hr : ∀ r, row = some r → B ≤ r ∧ ∃ o : Obj, W.heap[r]? = some o ∧ o.isCells = false) : W'.ownsRow base e z v n xs := by
  refine own_same h (fun k hk => ?_)
  rcases h.2 with ⟨rfl, _⟩ | ⟨b, cap, cur, rfl, _, hh, _⟩
  · simp [Value.ownBlock] at hk
  · obtain rfl : b = k := by simpa [Value.ownBlock] using hk
    exact grownBy_keeps_cells hg (fun r e => (hr r e).2) hh rfl
set_option maxRecDepth 100000 in
set_option maxHeartbeats 4000000 in
theorem fplaces_seq (w0 : World) (A : Option Addr) (c : Nat) (l : List Tm) (hC : Kd.C k42 w0 A l.length l) (hc : l.length ≤ c) (hl : (flat l).length ≤ 1099511627776) (be : Nat) (W : World) (hB : Below w0.heap.size w0 W) (hbe : W.heap[be]? = some (.cells #[.slice A l.length c] 22 (0, 0))) (lp n : Nat) :
    SeqS Fence.wide n Try.prog lp 182 #[.pointer (some ⟨be, 0, none⟩)] It.enc It.fx (fun H A B => Below A.heap.size A B ∧ H ≤ A.heap.size) (act l = none) (fun y => act l = some y.path) W := by
  intro J Jx hJ hJx hY h0; obtain ⟨W2, hW2⟩ : ∃ W2, (W.alloc (.cells #[.func (.yield lp) #[] #[]] 197)).alloc (.cells #[.func (.func 183) #[] #[.pointer (some ⟨W.heap.size + 1, 0, none⟩), .pointer (some ⟨W.heap.size, 0, none⟩)]] 198) = W2 := ⟨_, rfl⟩
  have hb2 : Below W.heap.size W W2 := by rw [← hW2]; exact ((Below.refl _ W).alloc (Nat.le_refl _) _).alloc (by simp) _
  have hy2 : W2.heap[W.heap.size]? = some (.cells #[.func (.yield lp) #[] #[]] 197 (0, 0)) := by
    rw [← hW2]; exact (Below.heap_alloc _ _ _ (by simp)).trans (World.alloc_heap_new W _)
  have hw2 : W2.heap[W.heap.size + 1]? = some (.cells #[.func (.func 183) #[] #[.pointer (some ⟨W.heap.size + 1, 0, none⟩), .pointer (some ⟨W.heap.size, 0, none⟩)]] 198 (0, 0)) := by
    rw [← hW2]; have := World.alloc_heap_new (W.alloc (.cells #[.func (.yield lp) #[] #[]] 197)) (.cells #[.func (.func 183) #[] #[.pointer (some ⟨W.heap.size + 1, 0, none⟩), .pointer (some ⟨W.heap.size, 0, none⟩)]] 198)
    rwa [World.size_alloc] at this
  have hJ' : ∀ A B, J A → Below A.heap.size A B → W.heap.size ≤ A.heap.size → J B := fun A B h hb hs => hJ A B h ⟨hb, hs⟩
  have hcall := fwalk w0 lp W.heap.size (W.heap.size + 1) W.heap.size (n - 1) J Jx hJ' (fun y A h hf => yield_any (hY y A h hf)) (SizeOf.sizeOf l) A c l (.slice none 0 0) [] W2 (Nat.le_refl _) hC hc (q12 hB hb2) hb2.size hy2 hw2 (hJ' W W2 h0 hb2 (Nat.le_refl _)) (World.ownsRow_nil _ _ _ _) (by simp; exact hl); have HCALL := Aside0.mk hcall; have HB2 := Aside0.mk hb2; have b1 : W2.cell? ⟨be, 0, none⟩ = some (.slice A l.length c) := (q4 (q13 hbe hb2) 0).trans rfl; have b2 : W2.cell? ⟨W.heap.size + 1, 0, none⟩ = _ := (q4 hw2 0).trans rfl; have HJ := Aside0.mk (fun B (hb : Below W2.heap.size W2 B) => hJ' W2 B (hJ' W W2 h0 hb2 (Nat.le_refl _)) hb hb2.size); clear hcall hb2 hy2 hw2 hJ hJ' hJx hY h0 hbe hC
  have hdd : ∀ k : Nat, (Fence.wide.depth.isSome = true → 1 ≤ k) := fun k h => by simp [Fence.wide] at h
  refine callsIn_of_wp Try.func182 rfl trivial ?_ rfl; simp only [Try.ntmps182, List.size_toArray, List.length_cons, List.length_nil, Nat.reduceAdd, Nat.reduceSub, Array.replicate_succ, Array.replicate_zero, List.push_toArray, List.append_toArray, List.nil_append, List.cons_append]
  gi_wp2_with (fail)
  refine ⟨trivial, hdd _, HCALL.out.mono ?_⟩; clear HCALL; rintro e W3 (⟨ha, rfl, hb3⟩ | ⟨rfl, y, ⟨p, hp, hyp⟩, hjx⟩)
  · have HA := Aside0.mk ha; have HB3 := Aside0.mk hb3; clear ha hb3
    gi_wp2
    go_end0
    exact ⟨⟨_, rfl⟩, .inl ⟨HA.out, HJ.out _ HB3.out⟩⟩
  · have HP := Aside0.mk hp; have HYP := Aside0.mk hyp; have HJX := Aside0.mk hjx; clear hp hyp hjx
    gi_wp2
    go_end0
    exact ⟨⟨_, rfl⟩, .inr ⟨y, by rw [HP.out, HYP.out]; rfl, HJX.out⟩⟩
theorem leave1c {P : Program} {fn : Func} {tmps : Array Value} {R : Ending → World → Prop} {D : Nat} {W : World} {v : Value} (hk : W.heap[D]? = some (.deferred (some [])))
    (hr : (results fn tmps).run P (W.putObj D (.deferred none)) = .ok v (W.putObj D (.deferred none))) (h : R (.returned v) (W.putObj D (.deferred none))) :
    LeavesInM Fence.wide 9 P fn tmps R [{ target := .collected D, args := #[] }] .returning W :=
  ⟨by simp, .inl ⟨_, _, rfl, run_takeDeferred hk, _, hr, h⟩⟩
theorem own_notD {W : World} {base n z e D : Nat} {v : Value} {xs : List Value} {l : Option (List Deferred)} (h : W.ownsRow base e z v n xs) (hd : W.heap[D]? = some (.deferred l)) {k : Nat} (hk : v.ownBlock = some k) : D ≠ k := by
  rintro rfl
  rcases h.2 with ⟨rfl, _⟩ | ⟨b, cap, cur, rfl, _, hh, _⟩
  · simp [Value.ownBlock] at hk
  · obtain rfl : b = D := by simpa [Value.ownBlock] using hk
    rw [hd] at hh; cases hh
set_option maxRecDepth 100000 in
set_option maxHeartbeats 4000000 in
theorem fplaces.calls (A : Option Addr) (n c : Nat) (W : World) :
    Calls Try.prog 135 #[.slice A n c] W fun e W' => e = .returned (.func (.func 182) #[] #[.pointer (some ⟨W.heap.size, 0, none⟩)]) ∧ W' = W.alloc (.cells #[.slice A n c] 22) := by
  go_enter Try.func135, Try.ntmps135
  go_wp2
  go_ret; exact ⟨rfl, rfl⟩
set_option maxRecDepth 100000 in
set_option maxHeartbeats 4000000 in
theorem Active.calls (A : Option Addr) (c : Nat) (l : List Tm) (W : World) (hC : Kd.C k42 W A l.length l) (hc : l.length ≤ c) (hl : (flat l).length ≤ 1099511627776) (hd : ∀ p, act l = some p → p.length ≤ 1048576) :
    Calls Try.prog 85 #[.slice A l.length c] W fun e W' => ∃ v, e = .returned (.tuple #[v, .bool (act l).isSome]) ∧ W'.ownsRow 0 3 1 v ((act l).getD []).length (((act l).getD []).map (Value.int .i64 ·)) ∧ Below W.heap.size W W' := by
  refine calls_of_wp_marks Try.func85 rfl ?_; simp only [Try.ntmps85, List.size_toArray, List.length_cons, List.length_nil, Nat.reduceAdd, Nat.reduceSub, Array.replicate_succ, Array.replicate_zero, List.push_toArray, List.append_toArray, List.nil_append, List.cons_append]
  go_wp2_with (go_at_call 135; refine (fplaces.calls _ _ _ _).mono ?_; rintro e w' ⟨rfl, rfl⟩)
  obtain ⟨Wl, hWl⟩ : ∃ Wl, Wl = (((W.alloc (.cells #[.slice none 0 0] 43)).alloc (.cells #[.bool false] 4)).alloc (.cells #[.slice A l.length c] 22)) := ⟨_, rfl⟩
  have hbl : Below W.heap.size W Wl := by rw [hWl]; exact (((Below.refl _ W).alloc (Nat.le_refl _) _).alloc (by simp) _).alloc (by simp; omega) _
  have hszl : Wl.heap.size = W.heap.size + 3 := by rw [hWl]; simp
  have hk0 : Wl.heap[W.heap.size]? = some (.cells #[.slice none 0 0] 43 (0, 0)) := by
    rw [hWl]; exact (Below.heap_alloc _ _ _ (by simp; omega)).trans ((Below.heap_alloc _ _ _ (by simp)).trans (World.alloc_heap_new W _))
  have hk1 : Wl.heap[W.heap.size + 1]? = some (.cells #[.bool false] 4 (0, 0)) := by
    rw [hWl]; have := World.alloc_heap_new (W.alloc (.cells #[.slice none 0 0] 43)) (.cells #[.bool false] 4); rw [World.size_alloc] at this; exact (Below.heap_alloc _ _ _ (by simp)).trans this
  have hk2 : Wl.heap[W.heap.size + 1 + 1]? = some (.cells #[.slice A l.length c] 22 (0, 0)) := by
    rw [hWl]; have := World.alloc_heap_new ((W.alloc (.cells #[.slice none 0 0] 43)).alloc (.cells #[.bool false] 4)) (.cells #[.slice A l.length c] 22); rw [World.size_alloc, World.size_alloc] at this; exact this
  rw [← hWl]; have HK0 := Aside0.mk hk0; have HK1 := Aside0.mk hk1; have HBL := Aside0.mk hbl; clear hWl
  refine wpIn_wide.1 (wpIn_rangeFunc_S (n := 9) (gf := 182) (lb := #[.pointer (some ⟨W.heap.size + 1 + 1, 0, none⟩)]) rfl (by omega) rfl trivial enters_fp
    (encs := It.enc) (Fx := It.fx) (R := fun H A B => Below A.heap.size A B ∧ H ≤ A.heap.size) (S := act l = none) (Sp := fun y => act l = some y.path)
    (fun W1 hb hz => fplaces_seq W A c l hC hc hl _ W1 (q12 hbl hb) (q13 hk2 hb) _ _)
    (fun H A B k o hr h1 h2 h3 => q13 h3 hr.1)
    (fun _ => rfl)
    (fun V => Below Wl.heap.size Wl V)
    (fun cd y V => cd = .ret ∧ ∃ v, V.heap[W.heap.size]? = some (.cells #[v] 43 (0, 0)) ∧ V.heap[W.heap.size + 1]? = some (.cells #[.bool true] 4 (0, 0)) ∧ V.ownsRow 0 3 1 v y.path.length (y.path.map (Value.int .i64 ·)) ∧ Below W.heap.size W V)
    (ownFrom_below (Nat.le_refl _) (Nat.le_refl _))
    (fun cd => fun y V V' row ⟨h0, v, h1, h2, h3, h4⟩ hg hr => ⟨h0, v, (grownBy_keeps_cells hg (fun r e => (hr r e).2) h1 rfl).trans h1, (grownBy_keeps_cells hg (fun r e => (hr r e).2) h2 rfl).trans h2, own_walks h3 hg hr, h4.grown hg h4.size (fun k e => by have := (hr k e).1; omega)⟩)
    (fun H A B hH h hr => q12 h hr.1)
    (fun cd y H A B hH ⟨h0, v, h1, h2, h3, h4⟩ hr => ⟨h0, v, q13 h1 hr.1, q13 h2 hr.1, own_below0 h3 hr.1, q12 h4 hr.1⟩)
    (Below.refl _ _)
    (fun y a' V => y.fx V ∧ a' = { tmps := #[.slice A l.length c, undef, .pointer (some ⟨W.heap.size, 0, none⟩), .pointer (some ⟨W.heap.size + 1, 0, none⟩), y.pv, .slice A l.length c, .func (.func 182) #[] #[.pointer (some ⟨W.heap.size + 1 + 1, 0, none⟩)], y.pv, .agg #[.int .i64 y.x.f0, .string y.x.f1, .slice y.A y.x.f2.length y.c], undef, undef], defers := [] })
    (fun y a' => fun _ V V' row h hg hr => ⟨⟨own_walks h.1.1 hg hr, h.1.2⟩, h.2⟩) ?assign ?body ?done ?stop)
  case assign =>
    rintro lp y V K hi hf hK; have HK := Aside0.mk hK; have HI := Aside0.mk hi; have HF := Aside0.mk hf; clear hK hi hf hk0 hk1 hk2 hC hd; simp [It.enc]
    gi_wp2
    exact HK.out _ _ (KeepsFrom.refl _ _) HI.out ⟨HF.out, rfl⟩
  case body =>
    rintro lp y a' V hl2 hr hi ⟨hf, rfl⟩; have hcl := cloneI y.pv y.path V hf.1 hf.2; have e0 : V.heap[W.heap.size]? = _ := q13 HK0.out hi; have e1 : V.heap[W.heap.size + 1]? = _ := q13 HK1.out hi; have HCL := Aside0.mk hcl; have E0 := Aside0.mk e0; have E1 := Aside0.mk e1; have HI := Aside0.mk hi; clear hcl hi hf hk0 hk1 hk2 hC hr e0 e1
    gi_wp2_with (fail)
    refine ⟨trivial, (CallsIn.inRound lp (callsIn_wide.2 HCL.out)).mono ?_⟩; rintro e V2 ⟨v, rfl, ho, hb⟩; have f0 := q13 E0.out hb; have f1 := q13 E1.out hb; have q0 := q11 f0 0; have q1 := q11 f1 0; have p0 : V2.cell? ⟨W.heap.size, 0, none⟩ = some (.slice none 0 0) := (q4 f0 0).trans rfl; have p1 : V2.cell? ⟨W.heap.size + 1, 0, none⟩ = some (.bool false) := (q4 f1 0).trans rfl; obtain ⟨va, vc, rfl⟩ := own_formN ho; have HO := Aside0.mk ho; have HB := Aside0.mk hb; have F0 := Aside0.mk f0; have F1 := Aside0.mk f1; clear ho hb f0 f1
    gi_wp2
    have hbV : Below Wl.heap.size V V2 := HB.out.mono HI.out.size; have g1 := grown_set V2 W.heap.size 0 (.slice va y.path.length vc); have g2 := grown_set (V2.setCell ⟨W.heap.size, 0, none⟩ (.slice va y.path.length vc)) (W.heap.size + 1) 0 (.bool true)
    have s0 : (V2.setCell ⟨W.heap.size, 0, none⟩ (.slice va y.path.length vc)).heap[W.heap.size]? = some (.cells #[.slice va y.path.length vc] 43 (0, 0)) := by simpa using q21 F0.out 0 (.slice va y.path.length vc)
    have s1 : (V2.setCell ⟨W.heap.size, 0, none⟩ (.slice va y.path.length vc)).heap[W.heap.size + 1]? = some (.cells #[.bool false] 4 (0, 0)) := (g1.block _ (blk_lt F1.out) (fun e => by injection e with e; omega)).trans F1.out; obtain ⟨V3, hV3⟩ : ∃ V3, V3 = V2.setCell ⟨W.heap.size, 0, none⟩ (.slice va y.path.length vc) := ⟨_, rfl⟩; rw [← hV3] at g1 g2 s0 s1 ⊢
    have s2 : (V3.setCell ⟨W.heap.size + 1, 0, none⟩ (.bool true)).heap[W.heap.size + 1]? = some (.cells #[.bool true] 4 (0, 0)) := by simpa using q21 s1 0 (.bool true)
    obtain ⟨V4, hV4⟩ : ∃ V4, V4 = V3.setCell ⟨W.heap.size + 1, 0, none⟩ (.bool true) := ⟨_, rfl⟩; rw [← hV4] at g2 s2 ⊢; have hov := HO.out; refine ⟨⟨Nat.le_trans HB.out.size (Nat.le_trans g1.size g2.size), fun k o hk h1 h2 => (g2.block k (Nat.lt_of_lt_of_le (Nat.lt_of_lt_of_le (blk_lt h1) HB.out.size) g1.size) (fun e => by injection e with e; omega)).trans ((g1.block k (Nat.lt_of_lt_of_le (blk_lt h1) HB.out.size) (fun e => by injection e with e; omega)).trans (q13 h1 HB.out))⟩, rfl, _, (g2.block _ (blk_lt s0) (fun e => by injection e with e; omega)).trans s0, s2, ?_, ?_⟩
    · refine own_same (own_base0 hov) (fun k e => ?_); have h1 := own_ltA hov k e; have h2 := HI.out.size; exact (g2.block k (Nat.lt_of_lt_of_le h1.1 g1.size) (fun e => by injection e with e; omega)).trans (g1.block k h1.1 (fun e => by injection e with e; omega))
    · exact (((HBL.out.trans (HI.out.mono HBL.out.size)).trans (HB.out.mono (by have := HI.out.size; omega))).grown g1 (by have := HB.out.size; have := HI.out.size; omega) (fun k e => by injection e with e; omega)).grown g2 (by have := HB.out.size; have := HI.out.size; have := g1.size; omega) (fun k e => by injection e with e; omega)
  case done =>
    rintro D V hD hS hi hkD; have e0 : V.heap[W.heap.size]? = _ := q13 HK0.out hi; have e1 : V.heap[W.heap.size + 1]? = _ := q13 HK1.out hi; have q0 := q11 e0 0; have q1 := q11 e1 0; have p0 : V.cell? ⟨W.heap.size, 0, none⟩ = some (.slice none 0 0) := (q4 e0 0).trans rfl; have p1 : V.cell? ⟨W.heap.size + 1, 0, none⟩ = some (.bool false) := (q4 e1 0).trans rfl; have HI := Aside0.mk hi; have HKD := Aside0.mk hkD; have HS := Aside0.mk hS; have E0 := Aside0.mk e0; have E1 := Aside0.mk e1; clear hi hkD hS hk0 hk1 hk2 hC e0 e1
    go_wp2
    have g1 := grown_set V W.heap.size 0 (.slice none 0 0); have g2 := grown_set (V.setCell ⟨W.heap.size, 0, none⟩ (.slice none 0 0)) (W.heap.size + 1) 0 (.bool false)
    have s0 : (V.setCell ⟨W.heap.size, 0, none⟩ (.slice none 0 0)).heap[W.heap.size]? = some (.cells #[.slice none 0 0] 43 (0, 0)) := by simpa using q21 E0.out 0 (.slice none 0 0)
    have s1 : (V.setCell ⟨W.heap.size, 0, none⟩ (.slice none 0 0)).heap[W.heap.size + 1]? = some (.cells #[.bool false] 4 (0, 0)) := (g1.block _ (blk_lt E1.out) (fun e => by injection e with e; omega)).trans E1.out; have d1 : (V.setCell ⟨W.heap.size, 0, none⟩ (.slice none 0 0)).heap[D]? = some (.deferred (some [])) := (Below.heap_setCell V ⟨W.heap.size, 0, none⟩ _ D (by show D ≠ W.heap.size; omega)).trans HKD.out; obtain ⟨V3, hV3⟩ : ∃ V3, V3 = V.setCell ⟨W.heap.size, 0, none⟩ (.slice none 0 0) := ⟨_, rfl⟩; rw [← hV3] at g1 g2 s0 s1 d1 ⊢
    have s2 : (V3.setCell ⟨W.heap.size + 1, 0, none⟩ (.bool false)).heap[W.heap.size + 1]? = some (.cells #[.bool false] 4 (0, 0)) := by simpa using q21 s1 0 (.bool false)
    have d2 : (V3.setCell ⟨W.heap.size + 1, 0, none⟩ (.bool false)).heap[D]? = some (.deferred (some [])) := (Below.heap_setCell V3 ⟨W.heap.size + 1, 0, none⟩ _ D (by show D ≠ W.heap.size + 1; omega)).trans d1; obtain ⟨V4, hV4⟩ : ∃ V4, V4 = V3.setCell ⟨W.heap.size + 1, 0, none⟩ (.bool false) := ⟨_, rfl⟩; rw [← hV4] at g2 s2 d2 ⊢; have s3 : V4.heap[W.heap.size]? = some (.cells #[.slice none 0 0] 43 (0, 0)) := (g2.block _ (blk_lt s0) (fun e => by injection e with e; omega)).trans s0; have hb4 : Below W.heap.size W V4 := ((HBL.out.trans (HI.out.mono HBL.out.size)).grown g1 (by have := HI.out.size; omega) (fun k e => by injection e with e; omega)).grown g2 (by have := HI.out.size; have := g1.size; omega) (fun k e => by injection e with e; omega); have c0 : (V4.putObj D (.deferred none)).cell? ⟨W.heap.size, 0, none⟩ = some (.slice none 0 0) := (q4 ((World.putObj_heap_other (by omega)).trans s3) 0).trans rfl; have c1 : (V4.putObj D (.deferred none)).cell? ⟨W.heap.size + 1, 0, none⟩ = some (.bool false) := (q4 ((World.putObj_heap_other (by omega)).trans s2) 0).trans rfl; refine leave1c (v := .tuple #[.slice none 0 0, .bool false]) d2 (by simp [results, Try.results85, go_sem, c0, c1]) ⟨.slice none 0 0, by rw [HS.out]; rfl, by rw [HS.out]; exact World.ownsRow_nil _ _ _ _, putObj_below hb4 D _ (by omega) hb4.size⟩
  case stop =>
    rintro D cd y V hD hp ⟨rfl, v, h1, h2, h3, h4⟩ hkD; have HKD := Aside0.mk hkD; have H1 := Aside0.mk h1; have H2 := Aside0.mk h2; have H3 := Aside0.mk h3; have H4 := Aside0.mk h4; clear hkD h1 h2 h3 h4 hk0 hk1 hk2 hC
    gi_wp2
    have c0 : (V.putObj D (.deferred none)).cell? ⟨W.heap.size, 0, none⟩ = some v := (q4 ((World.putObj_heap_other (by omega)).trans H1.out) 0).trans rfl; have c1 : (V.putObj D (.deferred none)).cell? ⟨W.heap.size + 1, 0, none⟩ = some (.bool true) := (q4 ((World.putObj_heap_other (by omega)).trans H2.out) 0).trans rfl; have hov := H3.out; have hbv : Below W.heap.size W (V.putObj D (.deferred none)) := putObj_below H4.out D _ (by omega) H4.out.size; refine leave1c (v := .tuple #[v, .bool true]) HKD.out (by simp [results, Try.results85, go_sem, c0, c1]) ⟨v, by rw [hp]; rfl, by rw [hp]; exact own_same hov (fun k e => World.putObj_heap_other (fun h => own_notD hov HKD.out e h.symm)), hbv⟩
end
end Go.Proofs.Ytjhjhhibbmligaa.TE
end
section
namespace Go.Proofs.Ytjhjhhibbmligaa.TE
open Go.RowKit Go.Shelf Go.Proofs.YtjhjhhibbmligaaW.PrintWords Go.Proofs.YtjhjhhibbmligaaW.PrintLast Go.Proofs.YtjhjhhibbmligaaW.PrintMore Go.Proofs.Ytjhjhhibbmligaa.Evs
set_option linter.unusedVariables false
set_option linter.unusedSimpArgs false
def stk : List Tm → List Int → List ByteArray
  | _, [] => []
  | l, i :: r => if h : 0 ≤ i ∧ i.toNat < l.length then (if (l[i.toNat]'h.2).f0 = 8 then [(l[i.toNat]'h.2).f1] else []) ++ stk (l[i.toNat]'h.2).f2 r else []
def okP : List Tm → List Int → Prop
  | _, [] => True
  | l, i :: r => ∃ h : 0 ≤ i ∧ i.toNat < l.length, okP (l[i.toNat]'h.2).f2 r
theorem act_good : ∀ (k : Nat) (l : List Tm), SizeOf.sizeOf l ≤ k → ∀ p, act l = some p → okP l p ∧ p.length ≤ (flat l).length := by
  intro k
  induction k with
  | zero => intro l hk; cases l <;> simp at hk
  | succ k ih =>
    intro l hk
    have go : ∀ (n q : Nat), l.length - q = n → ∀ p, act.go (l.drop q) q = some p → okP l p ∧ p.length ≤ (flat l).length := by
      intro n
      induction n with
      | zero =>
        intro q hn p hp; rw [List.drop_eq_nil_of_le (by omega), act_nil] at hp; cases hp
      | succ n ihn =>
        intro q hn p hp
        have hlt : q < l.length := by omega
        rw [List.drop_eq_getElem_cons hlt, act_cons] at hp; have hsz := sizeOf_kids' l q hlt; have h1 := flat_take_succ l q hlt; have h2 := flat_take_le l (q + 1); rw [h1, List.length_append, List.length_cons] at h2; have hin : (0 : Int) ≤ (q : Int) ∧ (q : Int).toNat < l.length := ⟨by omega, by simpa using hlt⟩
        cases hx : act l[q].f2 with
        | some p2 =>
          rw [hx] at hp; simp only [Option.some.injEq] at hp; subst hp; have h3 := ih l[q].f2 (by omega) p2 hx; exact ⟨⟨hin, by simpa using h3.1⟩, by simp only [List.length_cons]; omega⟩
        | none =>
          rw [hx] at hp
          by_cases h8 : l[q].f0 = 8
          · simp only [if_pos h8, Option.some.injEq] at hp; subst hp; exact ⟨⟨hin, trivial⟩, by simp only [List.length_cons, List.length_nil]; omega⟩
          · simp only [if_neg h8] at hp; exact ihn (q + 1) (by omega) p hp
    intro p hp; exact go l.length 0 rfl p (by rw [List.drop_zero]; exact hp)
def actP (l : List Tm) : List Int := (act l).getD []
theorem actP_ok (l : List Tm) : okP l (actP l) := by
  unfold actP
  cases h : act l with
  | none => exact trivial
  | some p => exact (act_good _ l (Nat.le_refl _) p h).1
theorem actP_len (l : List Tm) : (actP l).length ≤ (flat l).length := by
  unfold actP
  cases h : act l with
  | none => simp
  | some p => exact (act_good _ l (Nat.le_refl _) p h).2
theorem stk_len : ∀ (p : List Int) (l : List Tm), (stk l p).length ≤ p.length
  | [], l => by simp [stk]
  | i :: r, l => by
    rw [stk]
    by_cases h : 0 ≤ i ∧ i.toNat < l.length
    · rw [dif_pos h]; have := stk_len r (l[i.toNat]'h.2).f2; rw [List.length_append, List.length_cons]
      split <;> simp <;> omega
    · rw [dif_neg h]; simp
theorem own_CI {w : World} {v : Value} {xs : List Int} {base : Nat} (h : w.ownsRow base 3 1 v xs.length (xs.map (Value.int .i64 ·))) : ∃ A c, v = .slice A xs.length c ∧ xs.length ≤ c ∧ Kd.C (Kd.int .i64) w A xs.length xs :=
  Kd.R_reads (d := Kd.int .i64) (e := 3) (ok := fun _ => True) (Kd.R_of_own h (fun _ _ => trivial))
theorem own_CS {w : World} {v : Value} {xs : List ByteArray} {base : Nat} (h : w.ownsRow base 9 1 v xs.length (xs.map Value.string)) : ∃ A c, v = .slice A xs.length c ∧ xs.length ≤ c ∧ Kd.C Kd.string w A xs.length xs :=
  Kd.R_reads (d := Kd.string) (e := 9) (ok := fun _ => True) (Kd.R_of_own h (fun _ _ => trivial))
theorem act_pair (l : List Tm) : ∀ p, act l = some p → p.length ≤ (flat l).length := fun p h => (act_good _ l (Nat.le_refl _) p h).2
section
attribute [local go_sem] Oper.semAt_some
set_option maxRecDepth 100000 in
set_option maxHeartbeats 4000000 in
theorem Stack.calls (A : Option Addr) (c : Nat) (l : List Tm) (W : World) (hC : Kd.C k42 W A l.length l) (hc : l.length ≤ c) (hb : bk42s l ≤ 1048576) :
    Calls Try.prog 20 #[.slice A l.length c] W fun e W' => ∃ v, e = .returned v ∧ W'.ownsRow 0 9 1 v (stk l (actP l)).length ((stk l (actP l)).map Value.string) ∧ Below W.heap.size W W' := by
  have hu42 := Try.underlying42; have hfl := flat_len l; have hact := Active.calls A c l W hC hc (by omega) (fun p h => by have := act_pair l p h; omega); rw [show ((act l).getD []) = actP l from rfl] at hact; have hok := actP_ok l
  have hpl : (actP l).length ≤ 1048576 := by have := actP_len l; omega
  obtain ⟨p, hp⟩ : ∃ p, p = actP l := ⟨_, rfl⟩; rw [← hp] at hact hok hpl ⊢; have HACT := Aside0.mk hact; have HOK := Aside0.mk hok; have HC := Aside0.mk hC; have HCC := Aside0.mk hc; clear hact hok hC hc hb hp hfl
  go_enter Try.func20, Try.ntmps20
  go_wp2_with (fail)
  refine HACT.out.mono ?_; rintro e w1 ⟨v, rfl, ho1, hb1⟩; obtain ⟨P, d, rfl, hd, hCP⟩ := own_CI ho1; have HP := Aside0.mk hCP; have HB1 := Aside0.mk hb1; clear ho1 hCP hb1
  go_wp2_with (fail)
  go_loopw [0, 5, 15] (fun s vo i wr => ∃ (q : Nat) (cur : List Tm) (A1 : Option Addr) (c1 : Nat) (ns : List ByteArray), i = .int .i64 q ∧ s = .slice A1 cur.length c1 ∧ q ≤ p.length ∧ Aside0 (stk l p = ns ++ stk cur (p.drop q)) ∧ Aside0 (ns.length ≤ q) ∧ Aside0 (okP cur (p.drop q)) ∧ Aside0 (Kd.C k42 W A1 cur.length cur) ∧ Aside0 (cur.length ≤ c1) ∧ Aside0 (wr.ownsRow w1.heap.size 9 1 vo ns.length (ns.map Value.string)) ∧ Aside0 (Below w1.heap.size w1 wr)) (fun s vo i wr => p.length - (intOf i).toNat)
  case atStart => exact ⟨0, l, A, c, [], rfl, rfl, Nat.zero_le _, ⟨by rw [List.drop_zero]; rfl⟩, ⟨Nat.le_refl _⟩, HOK, HC, HCC, ⟨World.ownsRow_nil _ _ _ _⟩, ⟨Below.refl _ _⟩⟩
  case round =>
    obtain ⟨q, cur, A1, c1, ns, rfl, rfl, hq, HS, HN, HK1, HC1, HC1l, HO, HBr⟩ := hrel; have hbr : Below W.heap.size W wr := q12 HB1.out HBr.out
    by_cases hlt : q < p.length
    · obtain ⟨pad, rfl, hpc⟩ := Kd.at_int HP.out (q : Int) (by omega) (by omega); rw [Int.toNat_natCast] at hpc
      have hrd : rd p (q : Int) = p[q] := by simp [rd, List.getD_eq_getElem?_getD, List.getElem?_eq_getElem hlt]
      rw [hrd] at hpc; replace hpc := (HBr.out.cell (World.block_lt_of_cell? w1 _ hpc)).trans hpc; have hk := HK1.out; have hst := HS.out; rw [List.drop_eq_getElem_cons hlt] at hk hst; obtain ⟨i, hi⟩ : ∃ i, i = p[q] := ⟨_, rfl⟩; rw [← hi] at hpc hk hst; obtain ⟨⟨hi0, hi1⟩, hk2⟩ := hk; rw [stk, dif_pos ⟨hi0, hi1⟩] at hst
      have hlb : decide ((q : Int) < (p.length : Int)) = true := by simp; omega
      have hqi : (q : Int) < (p.length : Int) := by omega
      have hw : IntKind.i64.wrap ((q : Int) + 1) = (q : Int) + 1 := by rw [i64_w]; rw [wrap64_id (by omega) (by omega)]
      obtain ⟨ad, A3, c3, rfl, hx0, hx1, hx2, hl3, hr3⟩ := at_T42 HC1.out i hi0 (by omega); have hx : cur[i.toNat]? = some (cur[i.toNat]'hi1) := List.getElem?_eq_getElem hi1; obtain ⟨z, hz⟩ : ∃ z, z = cur[i.toNat]'hi1 := ⟨_, rfl⟩; rw [← hz] at hx hst hk2
      have hrd : rd_T42 cur i = z := by simp [rd_T42, List.getD_eq_getElem?_getD, hx]
      rw [hrd] at hx0 hx1 hx2 hl3 hr3; replace hx0 := (hbr.cell (World.block_lt_of_cell? W _ hx0)).trans hx0; replace hx1 := (hbr.cell (World.block_lt_of_cell? W _ hx1)).trans hx1
      have hilt : (i : Int) < (cur.length : Int) := by omega
      have HL3 := Aside0.mk hl3; have HR3 := Aside0.mk hr3; have HST := Aside0.mk hst; have HK2 := Aside0.mk hk2; have HX2 := Aside0.mk hx2; have HIX := Aside0.mk hi1; clear hz hx hrd hl3 hr3 hi1 hst hk2 hi
      by_cases h8 : z.f0 = 8
      · have e8 : (z.f0 == 8) = true := by simp [h8]
        rw [if_pos h8] at HST; obtain ⟨i0, hi, hz0, hz1, hz2⟩ := info_parts info_str; have HI := Aside0.mk (And.intro hi (And.intro hz0 (And.intro hz1 hz2)))
        have hnl : ns.length ≤ 1048576 := by have := HN.out; omega
        have HNL := Aside0.mk hnl; have hsz1 : w1.heap.size ≤ wr.heap.size := HBr.out.size; have HSZ1 := Aside0.mk hsz1; clear h8 hi hz0 hz1 hz2 hnl hsz1
        go_wp2_with (at_builtin; refine wpList_append_own _ rfl (.tmp 25) (.tmp 31) 23 rfl w1.heap.size 9 i0 (.string ⟨#[]⟩) 1 16 Try.underlying23 HI.out.1 HI.out.2.1 HI.out.2.2.1 HI.out.2.2.2 rfl (by decide) _ ns.length (ns.map Value.string) rfl (own_alloc HO.out _) ⟨wr.heap.size, 0, none⟩ 1 1 [.string z.f1] rfl rfl (cell_one_new _ _ _) (by simp [Value.oneCell']) (by have := HNL.out; simp only [maxLen]; omega) (by have := HNL.out; omega) (by have := HSZ1.out; simp; omega) ?_; intro v7 w7 ho7 hg7 _; have HO7 := Aside0.mk ho7; have hb7 : Below w1.heap.size w1 w7 := (below_al HBr.out _).grown hg7 (by have := HSZ1.out; simp; omega) (fun k e => (own_ltA HO.out k e).2); have HB7 := Aside0.mk hb7; have hx7 := ((HB1.out.trans (hb7.mono HB1.out.size)).cell (World.block_lt_of_cell? W _ HX2.out)).trans HX2.out; clear ho7 hg7 hb7)
        go_roundw
        case rel => exact ⟨q + 1, z.f2, A3, c3, ns ++ [z.f1], by go_num, rfl, by omega, ⟨by rw [List.append_assoc]; exact HST.out⟩, ⟨by have := HN.out; simp; omega⟩, HK2, HR3, HL3, ⟨by rw [List.length_append, List.map_append]; exact HO7.out⟩, HB7⟩
        case measure => simp [intOf]; omega
      · have e8 : (z.f0 == 8) = false := by simp [h8]
        rw [if_neg h8, List.nil_append] at HST; have hx7 := (hbr.cell (World.block_lt_of_cell? W _ HX2.out)).trans HX2.out; clear h8
        go_wp2_with (fail)
        go_roundw
        case rel => exact ⟨q + 1, z.f2, A3, c3, ns, by go_num, rfl, by omega, HST, ⟨by have := HN.out; omega⟩, HK2, HR3, HL3, HO, HBr⟩
        case measure => simp [intOf]; omega
    · obtain rfl : q = p.length := by omega
      have hlb : decide ((p.length : Int) < (p.length : Int)) = false := by simp
      have hst := HS.out; rw [List.drop_length, stk, List.append_nil] at hst; have HST := Aside0.mk hst; clear hst
      go_wp2_with (fail)
      go_ret; exact ⟨_, rfl, by rw [HST.out]; exact own_base0 HO.out, q12 HB1.out HBr.out⟩
end
end Go.Proofs.Ytjhjhhibbmligaa.TE
end
section
namespace Go.Proofs.Ytjhjhhibbmligaa.TE
open Go.RowKit Go.Shelf Go.Proofs.YtjhjhhibbmligaaW.PrintWords Go.Proofs.YtjhjhhibbmligaaW.PrintLast Go.Proofs.YtjhjhhibbmligaaW.PrintMore Go.Proofs.Ytjhjhhibbmligaa.Evs
set_option linter.unusedVariables false
set_option linter.unusedSimpArgs false
theorem stk_nil (l : List Tm) : stk l [] = [] := by rw [stk]
end Go.Proofs.Ytjhjhhibbmligaa.TE
end
section
namespace Go.Proofs.Ytjhjhhibbmligaa.TE
open Go.RowKit Go.Shelf Go.Proofs.YtjhjhhibbmligaaW.PrintWords Go.Proofs.YtjhjhhibbmligaaW.PrintLast Go.Proofs.YtjhjhhibbmligaaW.PrintMore
set_option linter.unusedVariables false
set_option linter.unusedSimpArgs false
inductive Ren : List Tm → List Tm → Prop
  | nil : Ren [] []
  | cons {x y : Tm} {r s : List Tm} : x.f0 = y.f0 → (x.f0 = 8 → x.f1 = y.f1) → Ren x.f2 y.f2 → Ren r s → Ren (x :: r) (y :: s)
theorem Ren.len {a b : List Tm} (h : Ren a b) : a.length = b.length := by
  induction h with
  | nil => rfl
  | cons h1 h2 h3 h4 ih1 ih2 => simp [ih2]
theorem Ren.flat {a b : List Tm} (h : Ren a b) : (flat a).length = (flat b).length := by
  induction h with
  | nil => rfl
  | cons h1 h2 h3 h4 ih1 ih2 => rw [flat_co, flat_co, ih1, ih2]
theorem Ren.snoc {a b : List Tm} (h : Ren a b) {x y : Tm} (h1 : x.f0 = y.f0) (h2 : x.f0 = 8 → x.f1 = y.f1) (h3 : Ren x.f2 y.f2) : Ren (a ++ [x]) (b ++ [y]) := by
  induction h with
  | nil => exact .cons h1 h2 h3 .nil
  | cons g1 g2 g3 g4 ih1 ih2 => exact .cons g1 g2 g3 ih2
theorem sameC_left {x y u : Tm} (h1 : x.f0 = y.f0) (h2 : x.f0 = 8 → x.f1 = y.f1) : sameC x u = sameC y u := by
  unfold sameC clsN; rw [h1]
  by_cases h : y.f0 = 8
  · rw [if_pos h, if_pos h, h2 (h1.trans h)]
  · rw [if_neg h, if_neg h]
theorem sameC_right {x y u : Tm} (h1 : x.f0 = y.f0) (h2 : x.f0 = 8 → x.f1 = y.f1) : sameC u x = sameC u y := by
  unfold sameC clsN; rw [h1]
  by_cases h : y.f0 = 8
  · rw [if_pos h, if_pos h, h2 (h1.trans h)]
  · rw [if_neg h, if_neg h]
theorem Ren.symm {a b : List Tm} (h : Ren a b) : Ren b a := by
  induction h with
  | nil => exact .nil
  | cons h1 h2 h3 h4 ih1 ih2 => exact .cons h1.symm (fun h => (h2 (h1.trans h)).symm) ih1 ih2
theorem E_ren_left {a b : List Tm} (h : E a b) : ∀ a', Ren a a' → E a' b := by
  induction h with
  | nil us => intro a' hr; cases hr; exact .nil _
  | skip u h ih => intro a' hr; exact .skip u (ih a' hr)
  | cons h1 h2 h3 ih1 ih2 =>
    intro a' hr
    cases hr with
    | cons g1 g2 g3 g4 => exact .cons (by rw [← sameC_left g1 g2]; exact h1) (ih1 _ g3) (ih2 _ g4)
  | dive h1 h2 ih1 ih2 =>
    intro a' hr
    cases hr with
    | cons g1 g2 g3 g4 => exact .dive (ih1 _ (.cons g1 g2 g3 .nil)) (ih2 _ g4)
theorem E_ren_right {a b : List Tm} (h : E a b) : ∀ b', Ren b b' → E a b' := by
  induction h with
  | nil us => intro b' hr; exact .nil _
  | skip u h ih =>
    intro b' hr
    cases hr with
    | cons g1 g2 g3 g4 => exact .skip _ (ih _ g4)
  | cons h1 h2 h3 ih1 ih2 =>
    intro b' hr
    cases hr with
    | cons g1 g2 g3 g4 => exact .cons (by rw [← sameC_right g1 g2]; exact h1) (ih1 _ g3) (ih2 _ g4)
  | dive h1 h2 ih1 ih2 =>
    intro b' hr
    cases hr with
    | cons g1 g2 g3 g4 => exact .dive (ih1 _ g3) (ih2 _ g4)
theorem ren_left {a a' b : List Tm} (h : Ren a a') : embL a b = embL a' b := by
  rw [Bool.eq_iff_iff, embL_E, embL_E]; exact ⟨fun h1 => E_ren_left h1 _ h, fun h1 => E_ren_left h1 _ h.symm⟩
theorem ren_right {a b b' : List Tm} (h : Ren b b') : embL a b = embL a b' := by
  rw [Bool.eq_iff_iff, embL_E, embL_E]; exact ⟨fun h1 => E_ren_right h1 _ h, fun h1 => E_ren_right h1 _ h.symm⟩
theorem prefix_self (s : List ByteArray) : (prefixS s s).2 = decide (0 < s.length) := by
  unfold prefixS; rw [if_neg (by omega)]
  cases hn : s.length with
  | zero => rw [pfx]; rfl
  | succ k =>
    rw [pfx, if_pos ⟨decide_eq_true rfl, by rw [hn, Nat.sub_self, Nat.zero_add]; exact decide_eq_true rfl⟩]; simp
theorem act_calls : ∀ (k : Nat) (l : List Tm), SizeOf.sizeOf l ≤ k → (act l = none ↔ ∀ x ∈ flat l, x.f0 ≠ 8) ∧ ∀ p, act l = some p → stk l p ≠ [] := by
  intro k
  induction k with
  | zero => intro l hk; cases l <;> simp at hk
  | succ k ih =>
    intro l hk
    have go : ∀ (r : List Tm) (q : Nat), l.drop q = r → (act.go r q = none ↔ ∀ x ∈ flat r, x.f0 ≠ 8) ∧ ∀ p, act.go r q = some p → stk l p ≠ [] := by
      intro r
      induction r with
      | nil => intro q _; rw [act_nil, flat_nil]; exact ⟨⟨fun _ x hx => (by cases hx), fun _ => rfl⟩, fun p h => (by cases h)⟩
      | cons t r ihr =>
        intro q hq
        have hlt : q < l.length := by
          rcases Nat.lt_or_ge q l.length with h | h
          · exact h
          · rw [List.drop_eq_nil_of_le h] at hq; cases hq
        rw [List.drop_eq_getElem_cons hlt] at hq
        injection hq with ht hr
        have hsz := sizeOf_kids' l q hlt; rw [ht] at hsz; obtain ⟨i1, i2⟩ := ih t.f2 (by omega); obtain ⟨j1, j2⟩ := ihr (q + 1) hr; have hin : (0 : Int) ≤ (q : Int) ∧ (q : Int).toNat < l.length := ⟨by omega, by simpa using hlt⟩
        have hq2 : l[(q : Int).toNat]'hin.2 = t := by simpa using ht
        rw [act_cons, flat_cons]
        cases hx : act t.f2 with
        | some p2 =>
          refine ⟨⟨fun h => (by cases h), fun h => ?_⟩, fun p hp => ?_⟩
          · have := i1.2 (fun x hx => h x (List.mem_cons_of_mem _ (List.mem_append_left _ hx))); rw [hx] at this; cases this
          · simp only [Option.some.injEq] at hp; subst hp; rw [stk, dif_pos hin]; intro he; have h3 := (List.append_eq_nil_iff.1 he).2; rw [hq2] at h3; exact i2 p2 hx h3
        | none =>
          by_cases h8 : t.f0 = 8
          · simp only [if_pos h8]; refine ⟨⟨fun h => (by cases h), fun h => absurd h8 (h t List.mem_cons_self)⟩, fun p hp => ?_⟩; simp only [Option.some.injEq] at hp; subst hp; rw [stk, dif_pos hin, hq2, if_pos h8]; simp
          · simp only [if_neg h8]; refine ⟨⟨fun h x hx' => ?_, fun h => j1.2 (fun x hx' => h x (List.mem_cons_of_mem _ (List.mem_append_right _ hx')))⟩, j2⟩
            rcases List.mem_cons.1 hx' with rfl | hx'
            · exact h8
            · rcases List.mem_append.1 hx' with h' | h'
              · exact i1.1 hx x h'
              · exact j1.1 h x h'
    have h := go l 0 rfl; exact h
theorem stk_calls (l : List Tm) : decide (0 < (stk l (actP l)).length) = (flat l).any (fun x => decide (x.f0 = 8)) := by
  obtain ⟨h1, h2⟩ := act_calls _ l (Nat.le_refl _); rw [Bool.eq_iff_iff, decide_eq_true_iff, List.any_eq_true]; unfold actP
  cases hx : act l with
  | none =>
    have h3 := h1.1 hx; refine ⟨fun h => ?_, fun ⟨x, hm, h8⟩ => absurd (of_decide_eq_true h8) (h3 x hm)⟩; rw [show (none : Option (List Int)).getD [] = [] from rfl, stk_nil] at h; simp at h
  | some p =>
    refine ⟨fun _ => ?_, fun _ => List.length_pos_iff.2 (h2 p hx)⟩; refine Classical.byContradiction (fun hn => ?_); have := h1.2 (fun x hm h8 => hn ⟨x, hm, decide_eq_true h8⟩); rw [hx] at this; cases this
end Go.Proofs.Ytjhjhhibbmligaa.TE
end
