/- What is proved: a part of the way to the statement JudgeFirstSaid: JrU, JrX, JrY, KJhx0, KJhx1, JrZ, Krow; no conditions. Put together by a program of this session (claimv.py). -/
import Derived.Test.YthniclbmpeklmaaProg
import Derived.Below
import Derived.Deep.Draws
import Derived.Deep.AppendLies
import Derived.Maps.AppendAt
import Derived.OwnWalk
import Derived.Laws.BytesArg
import Derived.Laws.MakeOwn
import Derived.Laws.OwnMore
import Derived.Deep.OwnRows
import Derived.Tactics
import Derived.Lib.ConvBytes
import Derived.Laws.Slices
import Derived.WalkKit
import Derived.KernelRfl
import Derived.RowKit3
import Derived.Deep.LoopGhost
import Derived.Deep.QuietTactic
import Derived.BigQuiet
import Derived.WideLaws
import Derived.Deep.DeepCutAuto
import Derived.Deep.CutBlock
import Derived.Deep.RegionHeld3
import Derived.Laws.Rows
import Derived.Lib.AppendStr
import Derived.ArgAppend
import Derived.Laws.IdiomCopy
import Derived.OrdersHeld
import Derived.Laws.BitsLemmas
import Derived.RowKit
import Derived.ChangeArms
import Derived.WideShapes
import Derived.OpenShut
import Derived.Deep.Slices
import Derived.Test.YthniclbmpeklmaaVjf6
section
set_option maxHeartbeats 4000000
set_option maxRecDepth 100000
namespace Go.Proofs.Ythniclbmpeklmaa.KJf
open Go.RowKit Go.Proofs.YthniclbmpeklmaaW.PrintWords Go.Proofs.YthniclbmpeklmaaW.PrintLast Go.Proofs.YthniclbmpeklmaaW.PrintMore Go.Proofs.Ythniclbmpeklmaa.Ju
open Go.Proofs.Ythniclbmpeklmaa.Au (evA types_ne RowIs)
open Go.Proofs.YthniclbmpeklmaaW.PrintWords renaming Ev → PE
set_option linter.unusedVariables false
set_option linter.unusedSimpArgs false
attribute [local go_sem high] eqA36
structure Rh (B : Nat) (w W : World) (b : Rb) (A0 : Option Addr) (c0 : Nat) (A : Option Addr) (c nw : Nat) (e : Au.Ev) : Prop where
 below : Below w.heap.size w W
 b_ : W.heap[w.heap.size]? = some (.cells #[.int .i64 b.m.clk, .slice A0 b.m.L.length c0, .slice A nw c] 46 (0, 0))
 e_ : W.heap[w.heap.size + 1]? = some (.cells (evA e) 50 (0, 0))
 r : W.heap[w.heap.size + 1 + 1]? = some (.cells #[.int .i64 0, .slice none 0 0, .slice none 0 0] 46 (0, 0))
 kr : KR W B (.slice A0 b.m.L.length c0) b.m.L
 kw : KW W B (.slice A nw c) b.W
 len : b.W.length = nw
section
variable {B : Nat} {w W W1 : World} {b : Rb} {A0 : Option Addr} {c0 : Nat} {A : Option Addr} {c nw : Nat} {e : Au.Ev}
theorem Rh.start (hr : KR w B (.slice A0 b.m.L.length c0) b.m.L) (hw : KW w B (.slice A nw c) b.W) (hl : b.W.length = nw) (e : Au.Ev) : Rh B w (((w.alloc (.cells #[.int .i64 b.m.clk, .slice A0 b.m.L.length c0, .slice A nw c] 46)).alloc (.cells (evA e) 50)).alloc (.cells #[.int .i64 0, .slice none 0 0, .slice none 0 0] 46)) b A0 c0 A c nw e :=
 ⟨below_alloc (below_alloc (below_alloc (Below.refl _ _) _) _) _, blk_alloc (blk_alloc (blk_new _ _) _) _, blk_alloc (by have q := blk_new (w.alloc (.cells #[.int .i64 b.m.clk, .slice A0 b.m.L.length c0, .slice A nw c] 46)) (.cells (evA e) 50); rw [show (w.alloc (.cells #[.int .i64 b.m.clk, .slice A0 b.m.L.length c0, .slice A nw c] 46)).heap.size = w.heap.size + 1 by simp] at q; exact q) _,
  (by have q := blk_new ((w.alloc (.cells #[.int .i64 b.m.clk, .slice A0 b.m.L.length c0, .slice A nw c] 46)).alloc (.cells (evA e) 50)) (.cells #[.int .i64 0, .slice none 0 0, .slice none 0 0] 46); rw [show ((w.alloc (.cells #[.int .i64 b.m.clk, .slice A0 b.m.L.length c0, .slice A nw c] 46)).alloc (.cells (evA e) 50)).heap.size = w.heap.size + 1 + 1 by simp] at q; exact q), Kd.R_below hr (below_alloc (below_alloc (below_alloc (Below.refl _ _) _) _) _), Kd.R_below hw (below_alloc (below_alloc (below_alloc (Below.refl _ _) _) _) _), hl⟩
theorem Rh.step (h : Rh B w W b A0 c0 A c nw e) (hb : Below W.heap.size W W1) : Rh B w W1 b A0 c0 A c nw e :=
 ⟨below_step h.below hb, blk_below h.b_ hb, blk_below h.e_ hb, blk_below h.r hb, Kd.R_below h.kr hb, Kd.R_below h.kw hb, h.len⟩
theorem Rh.newrow (h : Rh B w W b A0 c0 A c nw e) (cs0 cs : Array Value) (t : TypeId) : Rh B w ((W.alloc (.cells cs0 t)).setRow W.heap.size cs) b A0 c0 A c nw e ∧ ((W.alloc (.cells cs0 t)).setRow W.heap.size cs).heap[W.heap.size]? = some (.cells cs t (0, 0)) := by
 have h1 := h.step (below_alloc (Below.refl _ _) (.cells cs0 t))
 have hb : Below W.heap.size W ((W.alloc (.cells cs0 t)).setRow W.heap.size cs) := below_setRow (below_alloc (Below.refl _ _) _) (Nat.le_refl _) cs
 exact ⟨h.step hb, setRow_heap _ _ cs0 cs t _ (blk_new W _)⟩
theorem Rh.put (h : Rh B w W b A0 c0 A c nw e) {b1 : Rb} {A1 A2 : Option Addr} {c1 c2 nw2 : Nat} (hr : KR W B (.slice A1 b1.m.L.length c1) b1.m.L) (hw : KW W B (.slice A2 nw2 c2) b1.W) (hl : b1.W.length = nw2) :
  Rh B w (W.setRow w.heap.size #[.int .i64 b1.m.clk, .slice A1 b1.m.L.length c1, .slice A2 nw2 c2]) b1 A1 c1 A2 c2 nw2 e :=
 ⟨below_setRow h.below (Nat.le_refl _) _, setRow_heap _ _ _ _ _ _ h.b_, (setRow_other W _ _ _ (by simp)).trans h.e_, (setRow_other W _ _ _ (by simp; omega)).trans h.r,
  hr.keep fun g cs hg => setRow_other W _ g _ (types_ne hg h.b_ (by decide)), KW.keep hw fun g cs hg => setRow_other W _ g _ (types_ne hg h.b_ (by decide)), hl⟩
theorem Rh.fin (h : Rh B w W b A0 c0 A c nw e) (cs : Array Value) {v1 v2 : Value} {L1 : List S127} {Ws1 : List S66} (hr : KR W B v1 L1) (hw : KW W B v2 Ws1) :
  (W.setRow (w.heap.size + 1 + 1) cs).heap[w.heap.size + 1 + 1]? = some (.cells cs 46 (0, 0)) ∧ KR (W.setRow (w.heap.size + 1 + 1) cs) B v1 L1 ∧ KW (W.setRow (w.heap.size + 1 + 1) cs) B v2 Ws1 ∧ Below w.heap.size w (W.setRow (w.heap.size + 1 + 1) cs) :=
 ⟨setRow_heap _ _ _ _ _ _ h.r, hr.keep fun g cs hg => setRow_other W _ g _ (types_ne hg h.r (by decide)), KW.keep hw fun g cs hg => setRow_other W _ g _ (types_ne hg h.r (by decide)), below_setRow h.below (by omega) cs⟩
structure Rx (B : Nat) (w W : World) (b : Rb) (A0 : Option Addr) (c0 : Nat) (A : Option Addr) (c nw : Nat) (e : Au.Ev) (xb : Nat) (cs : Array Value) : Prop where
 rh : Rh B w W b A0 c0 A c nw e
 x_ : W.heap[xb]? = some (.cells cs 66 (0, 0))
 lt : w.heap.size + 1 + 1 < xb
 own : ∀ k, (Value.slice A nw c).ownBlock = some k → k ≠ xb
theorem KW.own {W W1 : World} {B : Nat} {v : Value} {L : List S66} (h : KW W B v L) (hk : ∀ k, v.ownBlock = some k → W1.heap[k]? = W.heap[k]?) : KW W1 B v L := by
 refine KW.of_row ?_
 have hr := h.row
 refine ⟨hr.1, ?_⟩
 rcases hr.2 with q | ⟨g, cap, cur, hv, hb, hg, q⟩
 ·exact .inl q
 ·exact .inr ⟨g, cap, cur, hv, hb, (hk g (by rw [hv]; rfl)).trans hg, q⟩
theorem Rx.step {xb : Nat} {cs : Array Value} (h : Rx B w W b A0 c0 A c nw e xb cs) (hb : Below W.heap.size W W1) : Rx B w W1 b A0 c0 A c nw e xb cs := ⟨h.rh.step hb, blk_below h.x_ hb, h.lt, h.own⟩
theorem Rx.newrow {xb : Nat} {cs : Array Value} (h : Rx B w W b A0 c0 A c nw e xb cs) (cs0 cs1 : Array Value) (t : TypeId) : Rx B w ((W.alloc (.cells cs0 t)).setRow W.heap.size cs1) b A0 c0 A c nw e xb cs ∧ ((W.alloc (.cells cs0 t)).setRow W.heap.size cs1).heap[W.heap.size]? = some (.cells cs1 t (0, 0)) :=
 ⟨h.step (below_setRow (below_alloc (Below.refl _ _) _) (Nat.le_refl _) cs1), setRow_heap _ _ cs0 cs1 t _ (blk_new W _)⟩
theorem Rx.put {xb : Nat} {cs : Array Value} (h : Rx B w W b A0 c0 A c nw e xb cs) {m1 : Rm} {A1 : Option Addr} {c1 : Nat} (hr : KR W B (.slice A1 m1.L.length c1) m1.L) : Rx B w (W.setRow w.heap.size #[.int .i64 m1.clk, .slice A1 m1.L.length c1, .slice A nw c]) ⟨m1, b.W⟩ A1 c1 A c nw e xb cs :=
 ⟨h.rh.put (b1 := ⟨m1, b.W⟩) hr h.rh.kw h.rh.len, (setRow_other W _ _ _ (by have := h.lt; omega)).trans h.x_, h.lt, h.own⟩
theorem Rx.mark {xb : Nat} {cs cs1 : Array Value} (h : Rx B w W b A0 c0 A c nw e xb cs) (j : Nat) (u : Value) (hc : cs.setIfInBounds j u = cs1) : Rx B w (W.setCell ⟨xb, j, none⟩ u) b A0 c0 A c nw e xb cs1 := by
 have hlt := h.lt
 have far : ∀ k, k ≠ xb → (W.setCell ⟨xb, j, none⟩ u).heap[k]? = W.heap[k]? := fun k hk => Below.heap_setCell _ _ _ _ hk
 exact ⟨⟨below_set h.rh.below (by omega), (far _ (by omega)).trans h.rh.b_, (far _ (by omega)).trans h.rh.e_, (far _ (by omega)).trans h.rh.r, h.rh.kr.keep fun g cs hg => far g (types_ne hg h.x_ (by decide)), KW.own h.rh.kw fun k hk => far k (h.own k hk), h.rh.len⟩, blk_put h.x_ j u hc, hlt, h.own⟩
theorem Rx.row {xb : Nat} {cs : Array Value} (h : Rx B w W b A0 c0 A c nw e xb cs) (cs1 : Array Value) : Rx B w (W.setRow xb cs1) b A0 c0 A c nw e xb cs1 := by
 have hlt := h.lt
 have far : ∀ k, k ≠ xb → (W.setRow xb cs1).heap[k]? = W.heap[k]? := fun k hk => setRow_other W _ k _ hk
 exact ⟨⟨below_setRow h.rh.below (by omega) _, (far _ (by omega)).trans h.rh.b_, (far _ (by omega)).trans h.rh.e_, (far _ (by omega)).trans h.rh.r, h.rh.kr.keep fun g cs hg => far g (types_ne hg h.x_ (by decide)), KW.own h.rh.kw fun k hk => far k (h.own k hk), h.rh.len⟩, setRow_heap _ _ _ _ _ _ h.x_, hlt, h.own⟩
end
def RhPost (B : Nat) (w : World) (nw : Nat) (p : Rb × Int) (r : Ending) (w' : World) : Prop := ∃ A1 c1 A2 c2, r = .returned (.tuple #[.agg #[.int .i64 p.1.m.clk, .slice A1 p.1.m.L.length c1, .slice A2 nw c2], .int .i64 p.2]) ∧ KR w' B (.slice A1 p.1.m.L.length c1) p.1.m.L ∧ KW w' B (.slice A2 nw c2) p.1.W ∧ Below w.heap.size w w' ∧ p.1.W.length = nw
theorem wpList_store_new {P : Program} {ops : Array Oper} {rest : List Oper} {o : Oper} {a : Act} {w : World} {Q : Exit → Act → World → Prop} (hgd : o.guard = none) (ty : TypeId) (x y : Operand) (ho : o.op = .store ty x y)
  (g q : Nat) (cells new : Array Value) (hx : a.eval x = .pointer (some ⟨g, q, none⟩)) (hy : a.eval y = .agg cells) (t : TypeId) (cur : Array Value) (hg : w.heap[g]? = some (.cells cur t (0, 0))) (hi : (P.info? ty).map (·.size) = some cells.size)
  (hold : q + cells.size ≤ cur.size) (h1 : cells.all (·.oneCell') = true) (hnew : (cur.toList.take q ++ cells.toList ++ cur.toList.drop (q + cells.size)).toArray = new) (h : wpList P ops Q rest (a.put o.dst undef) (w.setRow g new)) : wpList P ops Q (o :: rest) a w :=
 wpList_store_at hgd ty x y ho g q cells hx hy t cur hg hi hold h1 (hnew ▸ h)
theorem with_lit {w : World} {B : Nat} (clk : Int) (A0 : Option Addr) (n0 c0 : Nat) (A : Option Addr) (c nw : Nat) (L : List S66) (hl : L.length = nw) (i : Int) (h0 : 0 ≤ i) (hi : i < (nw : Int)) (hn : nw ≤ 64) (x : S66) (h : KW w B (.slice A nw c) L) (hB : B ≤ w.heap.size) :
  Calls Try.prog 63 #[.agg #[.int .i64 clk, .slice A0 n0 c0, .slice A nw c], .int .i64 i, .agg (wA x)] w fun r w' => ∃ A1 c1, r = .returned (.agg #[.int .i64 clk, .slice A0 n0 c0, .slice A1 nw c1]) ∧ KW w' B (.slice A1 nw c1) (L.set i.toNat x) ∧ Below w.heap.size w w' := by
 subst hl
 have := with_any clk A0 n0 c0 A c L i.toNat (by omega) hn x h
 rw [show ((i.toNat : Nat) : Int) = i by omega] at this
 refine this.mono ?_
 rintro r w' ⟨A1, c1, h1, h2, h3⟩
 exact ⟨A1, c1, h1, Kd.R_lower h2 hB, h3⟩
theorem work_at {W : World} {B : Nat} {A : Option Addr} {c nw : Nat} {L : List S66} (hl : L.length = nw) (h : KW W B (.slice A nw c) L) {i : Int} (h0 : 0 ≤ i) (hi : i < (nw : Int)) : ∃ g, A = some ⟨g, 0, none⟩ ∧ g < W.heap.size ∧ ∀ j, j < (wA (rd_T66 L i)).size → W.cell? ⟨g, i.toNat * 26 + j, none⟩ = (wA (rd_T66 L i))[j]? := by
 subst hl
 obtain ⟨x, hx, hrd, _⟩ := rd_at6 h0 hi
 rw [hrd]
 obtain ⟨g, cap, hv, _, hg, hcell⟩ := h.row.at_ wA_size hx
 injection hv with hA _ _
 exact ⟨g, hA, hg, hcell⟩
theorem own_ne {W : World} {B g c nw : Nat} {L : List S66} (hl : L.length = nw) (h : KW W B (.slice (some ⟨g, 0, none⟩) nw c) L) {i : Int} (h0 : 0 ≤ i) (hi : i < (nw : Int)) : ∀ k, (Value.slice (some ⟨g, 0, none⟩) nw c).ownBlock = some k → k ≠ W.heap.size := by
 intro k hk
 obtain ⟨g2, q1, q3, _⟩ := work_at hl h h0 hi
 have e1 : g = g2 := by injection q1 with q1; injection q1
 have e2 : g = k := by simpa [Value.ownBlock] using hk
 omega
theorem rhear_wrong {w : World} {B : Nat} (b : Rb) (A0 : Option Addr) (c0 : Nat) (A : Option Addr) (c nw : Nat) (e : Au.Ev) (hn : b.m.L.length ≤ 90000) (nd : (b.m.L.map S127.h).Nodup) (hB : B ≤ w.heap.size) (hkr : KR w B (.slice A0 b.m.L.length c0) b.m.L) (hkw : KW w B (.slice A nw c) b.W) (hlen : b.W.length = nw) (hnw : nw ≤ 64) (hr : rightJ e = false)  :
  Calls Try.prog 28 #[.agg #[.int .i64 b.m.clk, .slice A0 b.m.L.length c0, .slice A nw c], .agg (evA e)] w (RhPost B w nw (rhearF b e)) := by
 have hu0 := Try.underlying46
 have hu1 := Try.underlying36
 have hu2 := Try.underlying50
 have hu3 := Try.underlying66
 have hu4 := Try.underlying43
 have hu5 := Try.underlying44
 have HF := Aside0.mk (show rhearF b e = (b, 8) by unfold rhearF; rw [if_pos (.inl hr)])
 have CR := Aside0.mk (fun W => rright_run e W)
 rw [hr] at CR
 have HN := Aside0.mk hn
 have HND := Aside0.mk nd
 have HB := Aside0.mk hB
 have HNW := Aside0.mk hnw
 have HLEN := Aside0.mk hlen
 have HRT := Aside0.mk hr
 have HJ := Aside0.mk (Rh.start hkr hkw hlen e)
 clear hn nd hB hkr hkw hlen hnw hr 
 have hcb := fun i => blk_cell HJ.out.b_ i
 have hce := fun i => blk_cell HJ.out.e_ i
 have hlb := blk_lt HJ.out.b_
 have hle := blk_lt HJ.out.e_
 have hlr := blk_lt HJ.out.r
 go_enter Try.func28, Try.ntmps28
 go_wp2_with (first | (go_at_call 62; (with_reducible refine (CR.out _).mono ?_); rintro r w2 ⟨rfl, hb⟩; have HJ2 := Aside0.mk (HJ.out.step hb); clear hcb hce hlb hle hlr HJ; have HJ := HJ2; clear HJ2; have hcb := fun i => blk_cell HJ.out.b_ i; have hce := fun i => blk_cell HJ.out.e_ i; have hlb := blk_lt HJ.out.b_; have hle := blk_lt HJ.out.e_; have hlr := blk_lt HJ.out.r; clear hb) | ((with_reducible refine gate_store (t := 46) (p := 4) rfl ?_); go_loud (refine wpList_store_row rfl 46 _ _ rfl (w.heap.size + 1 + 1) #[.int .i64 b.m.clk, .slice A0 b.m.L.length c0, .slice A nw c] rfl rfl 46 _ HJ.out.r (by kernel_rfl) rfl (by simp [Value.oneCell']) ?_; have HFIN := Aside0.mk (HJ.out.fin #[.int .i64 b.m.clk, .slice A0 b.m.L.length c0, .slice A nw c] HJ.out.kr HJ.out.kw))))
 obtain ⟨hr9, hk9, hw9, hb9⟩ := HFIN.out
 unfold RhPost
 rw [HF.out]
 refine bodyPost_ret (v := .tuple #[.agg #[.int .i64 b.m.clk, .slice A0 b.m.L.length c0, .slice A nw c], .int .i64 8]) ?_ rfl ⟨A0, c0, A, c, rfl, hk9, hw9, hb9, HLEN.out⟩
 have hrow := run_loadVar_row (P := Try.prog) _ (w.heap.size + 1 + 1) 46 46 _ (0, 0) _ hr9 hu0 rfl (by kernel_rfl)
 simp [results, Try.results28, asAddr, hrow]
theorem rhear_worker {w : World} {B : Nat} (b : Rb) (A0 : Option Addr) (c0 : Nat) (A : Option Addr) (c nw : Nat) (e : Au.Ev) (hn : b.m.L.length ≤ 90000) (nd : (b.m.L.map S127.h).Nodup) (hB : B ≤ w.heap.size) (hkr : KR w B (.slice A0 b.m.L.length c0) b.m.L) (hkw : KW w B (.slice A nw c) b.W) (hlen : b.W.length = nw) (hnw : nw ≤ 64) (hr : rightJ e = true) (hwk : (b.W.length : Int) ≤ e.wk) :
  Calls Try.prog 28 #[.agg #[.int .i64 b.m.clk, .slice A0 b.m.L.length c0, .slice A nw c], .agg (evA e)] w (RhPost B w nw (rhearF b e)) := by
 have hu0 := Try.underlying46
 have hu1 := Try.underlying36
 have hu2 := Try.underlying50
 have hu3 := Try.underlying66
 have hu4 := Try.underlying43
 have hu5 := Try.underlying44
 have HF := Aside0.mk (show rhearF b e = (b, 8) by unfold rhearF; rw [if_pos (.inr hwk)])
 have d0 : decide (e.wk ≥ (nw : Int)) = true := decide_eq_true (by rw [← hlen]; exact hwk)
 have CR := Aside0.mk (fun W => rright_run e W)
 rw [hr] at CR
 have HN := Aside0.mk hn
 have HND := Aside0.mk nd
 have HB := Aside0.mk hB
 have HNW := Aside0.mk hnw
 have HLEN := Aside0.mk hlen
 have HRT := Aside0.mk hr
 have HJ := Aside0.mk (Rh.start hkr hkw hlen e)
 clear hn nd hB hkr hkw hlen hnw hr hwk
 have hcb := fun i => blk_cell HJ.out.b_ i
 have hce := fun i => blk_cell HJ.out.e_ i
 have hlb := blk_lt HJ.out.b_
 have hle := blk_lt HJ.out.e_
 have hlr := blk_lt HJ.out.r
 go_enter Try.func28, Try.ntmps28
 go_wp2_with (first | (go_at_call 62; (with_reducible refine (CR.out _).mono ?_); rintro r w2 ⟨rfl, hb⟩; have HJ2 := Aside0.mk (HJ.out.step hb); clear hcb hce hlb hle hlr HJ; have HJ := HJ2; clear HJ2; have hcb := fun i => blk_cell HJ.out.b_ i; have hce := fun i => blk_cell HJ.out.e_ i; have hlb := blk_lt HJ.out.b_; have hle := blk_lt HJ.out.e_; have hlr := blk_lt HJ.out.r; clear hb) | ((with_reducible refine gate_store (t := 46) (p := 4) rfl ?_); go_loud (refine wpList_store_row rfl 46 _ _ rfl (w.heap.size + 1 + 1) #[.int .i64 b.m.clk, .slice A0 b.m.L.length c0, .slice A nw c] rfl rfl 46 _ HJ.out.r (by kernel_rfl) rfl (by simp [Value.oneCell']) ?_; have HFIN := Aside0.mk (HJ.out.fin #[.int .i64 b.m.clk, .slice A0 b.m.L.length c0, .slice A nw c] HJ.out.kr HJ.out.kw))))
 obtain ⟨hr9, hk9, hw9, hb9⟩ := HFIN.out
 unfold RhPost
 rw [HF.out]
 refine bodyPost_ret (v := .tuple #[.agg #[.int .i64 b.m.clk, .slice A0 b.m.L.length c0, .slice A nw c], .int .i64 8]) ?_ rfl ⟨A0, c0, A, c, rfl, hk9, hw9, hb9, HLEN.out⟩
 have hrow := run_loadVar_row (P := Try.prog) _ (w.heap.size + 1 + 1) 46 46 _ (0, 0) _ hr9 hu0 rfl (by kernel_rfl)
 simp [results, Try.results28, asAddr, hrow]
theorem do_lit {w W : World} {B : Nat} (m : Rm) (A0 : Option Addr) (c0 : Nat) (e : Au.Ev) (hn : m.L.length ≤ 90000) (nd : (m.L.map S127.h).Nodup) (hB : B ≤ W.heap.size) (h : KR W B (.slice A0 m.L.length c0) m.L) {clk1 : Int} {L1 : List S127} {k1 : Int} (hp : rdoF m e = (⟨clk1, L1⟩, k1)) :
  Calls Try.prog 45 #[.agg #[.int .i64 m.clk, .slice A0 m.L.length c0], .agg (evA e)] W fun r w' => ∃ A1 c1, r = .returned (.tuple #[.agg #[.int .i64 clk1, .slice A1 L1.length c1], .int .i64 k1]) ∧ KR w' B (.slice A1 L1.length c1) L1 ∧ Below W.heap.size W w' := by
 refine (rdo_any m _ e hn nd hB h).mono ?_
 rw [hp]
 rintro r w' ⟨v1, h1, h2, h3⟩
 obtain ⟨A1, c1, rfl⟩ := Kd.R_slice h2
 exact ⟨A1, c1, h1, h2, h3⟩
theorem rhear_tick {w : World} {B : Nat} (b : Rb) (A0 : Option Addr) (c0 : Nat) (A : Option Addr) (c nw : Nat) (e : Au.Ev) (hn : b.m.L.length ≤ 90000) (nd : (b.m.L.map S127.h).Nodup) (hB : B ≤ w.heap.size) (hkr : KR w B (.slice A0 b.m.L.length c0) b.m.L) (hkw : KW w B (.slice A nw c) b.W) (hlen : b.W.length = nw) (hnw : nw ≤ 64) (hr : rightJ e = true) (hwl : e.wk < (nw : Int)) (hk : e.k = 1) :
  Calls Try.prog 28 #[.agg #[.int .i64 b.m.clk, .slice A0 b.m.L.length c0, .slice A nw c], .agg (evA e)] w (RhPost B w nw (rhearF b e)) := by
 have hu0 := Try.underlying46
 have hu1 := Try.underlying36
 have hu2 := Try.underlying50
 have hu3 := Try.underlying66
 have hu4 := Try.underlying43
 have hu5 := Try.underlying44
 have HF := Aside0.mk (show rhearF b e = (⟨(rdoF b.m e).1, b.W⟩, (rdoF b.m e).2) by unfold rhearF; rw [if_neg (by rw [hr, hlen]; simp; omega), if_pos hk])
 have d0 : decide (e.wk ≥ (nw : Int)) = false := decide_eq_false (by omega)
 have HWL := Aside0.mk hwl
 have qk1 : (e.k == 1) = true := beq_iff_eq.2 hk
 have qk2 : (e.k == 2) = false := beq_eq_false_iff_ne.2 (by omega)
 have qk3 : (e.k == 3) = false := beq_eq_false_iff_ne.2 (by omega)
 have qk4 : (e.k == 4) = false := beq_eq_false_iff_ne.2 (by omega)
 obtain ⟨⟨⟨clk1, L1⟩, k1⟩, hp⟩ : ∃ p, rdoF b.m e = p := ⟨_, rfl⟩
 have CD : Aside0 (∀ W, Rh B w W b A0 c0 A c nw e → Calls Try.prog 45 #[.agg #[.int .i64 b.m.clk, .slice A0 b.m.L.length c0], .agg (evA e)] W fun r w' => ∃ A1 c1, r = .returned (.tuple #[.agg #[.int .i64 clk1, .slice A1 L1.length c1], .int .i64 k1]) ∧ KR w' B (.slice A1 L1.length c1) L1 ∧ Below W.heap.size W w') := ⟨fun W hW => do_lit (w := w) b.m A0 c0 e hn nd (Nat.le_trans hB hW.below.size) hW.kr hp⟩
 rw [hp] at HF
 have CR := Aside0.mk (fun W => rright_run e W)
 rw [hr] at CR
 have HN := Aside0.mk hn
 have HND := Aside0.mk nd
 have HB := Aside0.mk hB
 have HNW := Aside0.mk hnw
 have HLEN := Aside0.mk hlen
 have HRT := Aside0.mk hr
 have HJ := Aside0.mk (Rh.start hkr hkw hlen e)
 clear hn nd hB hkr hkw hlen hnw hr hwl hk
 have hcb := fun i => blk_cell HJ.out.b_ i
 have hce := fun i => blk_cell HJ.out.e_ i
 have hlb := blk_lt HJ.out.b_
 have hle := blk_lt HJ.out.e_
 have hlr := blk_lt HJ.out.r
 go_enter Try.func28, Try.ntmps28
 clear hp
 go_wp2_with (first | (go_at_call 62; (with_reducible refine (CR.out _).mono ?_); rintro r w2 ⟨rfl, hb⟩; have HJ2 := Aside0.mk (HJ.out.step hb); clear hcb hce hlb hle hlr HJ; have HJ := HJ2; clear HJ2; have hcb := fun i => blk_cell HJ.out.b_ i; have hce := fun i => blk_cell HJ.out.e_ i; have hlb := blk_lt HJ.out.b_; have hle := blk_lt HJ.out.e_; have hlr := blk_lt HJ.out.r; clear hb) | (go_at_call 45; go_loud ((with_reducible refine (CD.out _ HJ.out).mono ?_); rintro r w3 ⟨A1, c1, rfl, hk1, hb⟩; have HJ2 := Aside0.mk (HJ.out.step hb); clear hcb hce hlb hle hlr HJ; have HJ := HJ2; clear HJ2; have hcb := fun i => blk_cell HJ.out.b_ i; have hce := fun i => blk_cell HJ.out.e_ i; have hlb := blk_lt HJ.out.b_; have hle := blk_lt HJ.out.e_; have hlr := blk_lt HJ.out.r; have HK1 := Aside0.mk hk1; clear hb hk1)) | ((with_reducible refine gate_store (t := 43) (p := 6) rfl ?_); go_loud (refine wpList_store_row rfl 43 _ _ rfl (w3.heap.size) #[.int .i64 clk1, .slice A1 L1.length c1] rfl rfl 43 _ (blk_new w3 (.cells #[.int .i64 0, .slice none 0 0] 43)) (by kernel_rfl) rfl (by simp [Value.oneCell']) ?_; have HT := Aside0.mk (HJ.out.newrow #[.int .i64 0, .slice none 0 0] #[.int .i64 clk1, .slice A1 L1.length c1] 43).2; have HK2 := Aside0.mk (KR.keep (Kd.R_below HK1.out (below_alloc (Below.refl _ _) (.cells #[.int .i64 0, .slice none 0 0] 43))) (W1 := (w3.alloc (.cells #[.int .i64 0, .slice none 0 0] 43)).setRow w3.heap.size #[.int .i64 clk1, .slice A1 L1.length c1]) (fun g cs hg => setRow_other _ _ g _ (types_ne hg (blk_new w3 _) (by decide)))); clear HK1; have HK1 := HK2; clear HK2; have hct := fun i => blk_cell HT.out i; have hlt := blk_lt HT.out; have HJ2 := Aside0.mk ((HJ.out.newrow #[.int .i64 0, .slice none 0 0] #[.int .i64 clk1, .slice A1 L1.length c1] 43).1); clear hcb hce hlb hle hlr HJ; have HJ := HJ2; clear HJ2; have hcb := fun i => blk_cell HJ.out.b_ i; have hce := fun i => blk_cell HJ.out.e_ i; have hlb := blk_lt HJ.out.b_; have hle := blk_lt HJ.out.e_; have hlr := blk_lt HJ.out.r)) | ((with_reducible refine gate_store (t := 43) (p := 36) rfl ?_); go_loud (refine wpList_store_new rfl 43 _ _ rfl (w.heap.size) 0 #[.int .i64 clk1, .slice A1 L1.length c1] #[.int .i64 clk1, .slice A1 L1.length c1, .slice A nw c] rfl rfl 46 _ HJ.out.b_ (by kernel_rfl) (by simp) (by simp [Value.oneCell']) rfl ?_; have HKW := Aside0.mk HJ.out.kw; have HPUT := Aside0.mk (HJ.out.put (b1 := ⟨⟨clk1, L1⟩, b.W⟩) HK1.out HKW.out HLEN.out); clear hct hlt HT; have HKQ := Aside0.mk HPUT.out.kr; clear hcb hce hlb hle hlr HJ; have hcb := fun i => blk_cell HPUT.out.b_ i; have hce := fun i => blk_cell HPUT.out.e_ i; have hlb := blk_lt HPUT.out.b_; have hle := blk_lt HPUT.out.e_; have hlr := blk_lt HPUT.out.r)) | ((with_reducible refine gate_store (t := 46) (p := 4) rfl ?_); go_loud (refine wpList_store_row rfl 46 _ _ rfl (w.heap.size + 1 + 1) #[.int .i64 clk1, .slice A1 L1.length c1, .slice A nw c] rfl rfl 46 _ HPUT.out.r (by kernel_rfl) rfl (by simp [Value.oneCell']) ?_; have HFIN := Aside0.mk (HPUT.out.fin #[.int .i64 clk1, .slice A1 L1.length c1, .slice A nw c] HPUT.out.kr HPUT.out.kw))))
 obtain ⟨hr9, hk9, hw9, hb9⟩ := HFIN.out
 unfold RhPost
 rw [HF.out]
 refine bodyPost_ret (v := .tuple #[.agg #[.int .i64 clk1, .slice A1 L1.length c1, .slice A nw c], .int .i64 k1]) ?_ rfl ⟨A1, c1, A, c, rfl, hk9, hw9, hb9, HLEN.out⟩
 have hrow := run_loadVar_row (P := Try.prog) _ (w.heap.size + 1 + 1) 46 46 _ (0, 0) _ hr9 hu0 rfl (by kernel_rfl)
 simp [results, Try.results28, asAddr, hrow]
theorem rhear_invoke_busy {w : World} {B : Nat} (b : Rb) (A0 : Option Addr) (c0 : Nat) (A : Option Addr) (c nw : Nat) (e : Au.Ev) (hn : b.m.L.length ≤ 90000) (nd : (b.m.L.map S127.h).Nodup) (hB : B ≤ w.heap.size) (hkr : KR w B (.slice A0 b.m.L.length c0) b.m.L) (hkw : KW w B (.slice A nw c) b.W) (hlen : b.W.length = nw) (hnw : nw ≤ 64) (hr : rightJ e = true) (hwl : e.wk < (nw : Int)) (hk : e.k = 2) (hi : ¬ (rd_T66 b.W e.wk).f0.f2 = 0) :
  Calls Try.prog 28 #[.agg #[.int .i64 b.m.clk, .slice A0 b.m.L.length c0, .slice A nw c], .agg (evA e)] w (RhPost B w nw (rhearF b e)) := by
 have hu0 := Try.underlying46
 have hu1 := Try.underlying36
 have hu2 := Try.underlying50
 have hu3 := Try.underlying66
 have hu4 := Try.underlying43
 have hu5 := Try.underlying44
 have HF := Aside0.mk (show rhearF b e = (b, 6) by unfold rhearF; rw [if_neg (by rw [hr, hlen]; simp; omega), if_neg (show ¬ e.k = 1 by omega), if_pos hk]; rw [if_neg hi])
 have h0 := right_wk hr
 have HW0 := Aside0.mk h0
 obtain ⟨g, rfl, _, _⟩ := work_at hlen hkw h0 hwl
 obtain ⟨x, hx⟩ : ∃ x, rd_T66 b.W e.wk = x := ⟨_, rfl⟩
 have HXX := Aside0.mk hx
 have p0 : (0 ≤ e.wk) = True := eq_true h0
 have q0 : (e.wk < (nw : Int)) = True := eq_true hwl
 have d0 : decide (e.wk ≥ (nw : Int)) = false := decide_eq_false (by omega)
 have HWL := Aside0.mk hwl
 have qk1 : (e.k == 1) = false := beq_eq_false_iff_ne.2 (by omega)
 have qk2 : (e.k == 2) = true := beq_iff_eq.2 hk
 have qk3 : (e.k == 3) = false := beq_eq_false_iff_ne.2 (by omega)
 have qk4 : (e.k == 4) = false := beq_eq_false_iff_ne.2 (by omega)
 rw [hx] at hi
 have i0 : (x.f0.f2 == 0) = false := beq_eq_false_iff_ne.2 (hi)
 have CR := Aside0.mk (fun W => rright_run e W)
 rw [hr] at CR
 have HN := Aside0.mk hn
 have HND := Aside0.mk nd
 have HB := Aside0.mk hB
 have HNW := Aside0.mk hnw
 have HLEN := Aside0.mk hlen
 have HRT := Aside0.mk hr
 have HJ := Aside0.mk (Rh.start hkr hkw hlen e)
 clear hn nd hB hkr hkw hlen hnw hr hwl hk hi
 have hcb := fun i => blk_cell HJ.out.b_ i
 have hce := fun i => blk_cell HJ.out.e_ i
 have hlb := blk_lt HJ.out.b_
 have hle := blk_lt HJ.out.e_
 have hlr := blk_lt HJ.out.r
 go_enter Try.func28, Try.ntmps28
 clear hx h0
 go_upto_region 8 with (first | (go_at_call 62; (with_reducible refine (CR.out _).mono ?_); rintro r w2 ⟨rfl, hb⟩; have HJ2 := Aside0.mk (HJ.out.step hb); clear hcb hce hlb hle hlr HJ; have HJ := HJ2; clear HJ2; have hcb := fun i => blk_cell HJ.out.b_ i; have hce := fun i => blk_cell HJ.out.e_ i; have hlb := blk_lt HJ.out.b_; have hle := blk_lt HJ.out.e_; have hlr := blk_lt HJ.out.r; clear hb) | ((with_reducible refine Go.Proofs.Ythniclbmpeklmaa.Ev.gate_load (t := 66) (p := 43) rfl ?_); go_loud (refine wpList_load_at rfl 66 _ rfl g (e.wk.toNat * 26) ?hx (wA x) _ ?hc hu3 rfl (wA_info x) ?_; (case hx => rfl); (case hc => obtain ⟨g2, q, _, q2⟩ := work_at HJ.out.len HJ.out.kw HW0.out HWL.out; rw [HXX.out] at q2; obtain rfl : g = g2 := (by injection q with q; injection q); exact q2))) | ((with_reducible refine gate_store (t := 66) (p := 8) rfl ?_); go_loud (refine wpList_store_row rfl 66 _ _ rfl (w2.heap.size) (wA x) rfl rfl 66 _ (blk_new w2 (.cells #[.int .i64 0, .int .i64 0, .int .i64 0, .int .i64 0, .int .i64 0, .int .i64 0, .int .i64 0, .int .i64 0, .int .i64 0, .int .i64 0, .bool false, .int .i64 0, .int .i64 0, .bool false, .int .i64 0, .int .i64 0, .int .i64 0, .int .i64 0, .int .i64 0, .int .i64 0, .int .i64 0, .int .i64 0, .int .i64 0, .int .i64 0, .bool false, .int .i64 0] 66)) (wA_info x) rfl (wA_one x) ?_; have HX := Aside0.mk (show Rx B w _ b A0 c0 (some ⟨g, 0, none⟩) c nw e w2.heap.size (wA x) from ⟨(HJ.out.newrow #[.int .i64 0, .int .i64 0, .int .i64 0, .int .i64 0, .int .i64 0, .int .i64 0, .int .i64 0, .int .i64 0, .int .i64 0, .int .i64 0, .bool false, .int .i64 0, .int .i64 0, .bool false, .int .i64 0, .int .i64 0, .int .i64 0, .int .i64 0, .int .i64 0, .int .i64 0, .int .i64 0, .int .i64 0, .int .i64 0, .int .i64 0, .bool false, .int .i64 0] (wA x) 66).1, (HJ.out.newrow #[.int .i64 0, .int .i64 0, .int .i64 0, .int .i64 0, .int .i64 0, .int .i64 0, .int .i64 0, .int .i64 0, .int .i64 0, .int .i64 0, .bool false, .int .i64 0, .int .i64 0, .bool false, .int .i64 0, .int .i64 0, .int .i64 0, .int .i64 0, .int .i64 0, .int .i64 0, .int .i64 0, .int .i64 0, .int .i64 0, .int .i64 0, .bool false, .int .i64 0] (wA x) 66).2, blk_lt HJ.out.r, own_ne HJ.out.len HJ.out.kw HW0.out HWL.out⟩); clear hcb hce hlb hle hlr HJ)))
 refine gen_world' (fun W => Rx B w W b A0 c0 (some ⟨g, 0, none⟩) c nw e w2.heap.size (wA x)) (by exact HX.out) fun W3 H3 => ?_
 have HX := Aside0.mk H3
 clear H3 p0 q0
 have hcb := fun i => blk_cell HX.out.rh.b_ i
 have hce := fun i => blk_cell HX.out.rh.e_ i
 have hlb := blk_lt HX.out.rh.b_
 have hle := blk_lt HX.out.rh.e_
 have hlr := blk_lt HX.out.rh.r
 have hcx := fun i => (show World.cell? _ ⟨w2.heap.size, i, none⟩ = (#[.int .i64 x.f0.f0, .int .i64 x.f0.f1, .int .i64 x.f0.f2, .int .i64 x.f0.f3.f0, .int .i64 x.f0.f3.f1, .int .i64 x.f0.f4.f0, .int .i64 x.f0.f4.f1, .int .i64 x.f0.f5, .int .i64 x.f0.f6, .int .i64 x.f0.f7, .bool x.f0.f8, .int .i64 x.f0.f9, .int .i64 x.f1, .bool x.f2, .int .i64 x.f3.f0, .int .i64 x.f3.f1, .int .i64 x.f3.f2, .int .i64 x.f3.f3.f0, .int .i64 x.f3.f3.f1, .int .i64 x.f3.f4.f0, .int .i64 x.f3.f4.f1, .int .i64 x.f3.f5, .int .i64 x.f3.f6, .int .i64 x.f3.f7, .bool x.f3.f8, .int .i64 x.f3.f9] : Array Value)[i]? from blk_cell HX.out.x_ i)
 have hlx := blk_lt HX.out.x_
 go_wp2_with (first | ((with_reducible refine gate_store (t := 46) (p := 4) rfl ?_); go_loud (refine wpList_store_row rfl 46 _ _ rfl (w.heap.size + 1 + 1) #[.int .i64 b.m.clk, .slice A0 b.m.L.length c0, .slice (some ⟨g, 0, none⟩) nw c] rfl rfl 46 _ HX.out.rh.r (by kernel_rfl) rfl (by simp [Value.oneCell']) ?_; have HFIN := Aside0.mk (HX.out.rh.fin #[.int .i64 b.m.clk, .slice A0 b.m.L.length c0, .slice (some ⟨g, 0, none⟩) nw c] HX.out.rh.kr HX.out.rh.kw))))
 obtain ⟨hr9, hk9, hw9, hb9⟩ := HFIN.out
 unfold RhPost
 rw [HF.out]
 refine bodyPost_ret (v := .tuple #[.agg #[.int .i64 b.m.clk, .slice A0 b.m.L.length c0, .slice (some ⟨g, 0, none⟩) nw c], .int .i64 6]) ?_ rfl ⟨A0, c0, some ⟨g, 0, none⟩, c, rfl, hk9, hw9, hb9, HLEN.out⟩
 have hrow := run_loadVar_row (P := Try.prog) _ (w.heap.size + 1 + 1) 46 46 _ (0, 0) _ hr9 hu0 rfl (by kernel_rfl)
 simp [results, Try.results28, asAddr, hrow]
theorem rhear_fire_op {w : World} {B : Nat} (b : Rb) (A0 : Option Addr) (c0 : Nat) (A : Option Addr) (c nw : Nat) (e : Au.Ev) (hn : b.m.L.length ≤ 90000) (nd : (b.m.L.map S127.h).Nodup) (hB : B ≤ w.heap.size) (hkr : KR w B (.slice A0 b.m.L.length c0) b.m.L) (hkw : KW w B (.slice A nw c) b.W) (hlen : b.W.length = nw) (hnw : nw ≤ 64) (hr : rightJ e = true) (hwl : e.wk < (nw : Int)) (hk : e.k = 4) (hi : ¬ (rd_T66 b.W e.wk).f0.f2 = 5) :
  Calls Try.prog 28 #[.agg #[.int .i64 b.m.clk, .slice A0 b.m.L.length c0, .slice A nw c], .agg (evA e)] w (RhPost B w nw (rhearF b e)) := by
 have hu0 := Try.underlying46
 have hu1 := Try.underlying36
 have hu2 := Try.underlying50
 have hu3 := Try.underlying66
 have hu4 := Try.underlying43
 have hu5 := Try.underlying44
 have HF := Aside0.mk (show rhearF b e = (b, 6) by unfold rhearF; rw [if_neg (by rw [hr, hlen]; simp; omega), if_neg (show ¬ e.k = 1 by omega), if_neg (show ¬ e.k = 2 by omega), if_neg (show ¬ e.k = 3 by omega), if_pos hk]; rw [if_neg (fun q => hi q.1)])
 have h0 := right_wk hr
 have HW0 := Aside0.mk h0
 obtain ⟨g, rfl, _, _⟩ := work_at hlen hkw h0 hwl
 obtain ⟨x, hx⟩ : ∃ x, rd_T66 b.W e.wk = x := ⟨_, rfl⟩
 have HXX := Aside0.mk hx
 have p0 : (0 ≤ e.wk) = True := eq_true h0
 have q0 : (e.wk < (nw : Int)) = True := eq_true hwl
 have d0 : decide (e.wk ≥ (nw : Int)) = false := decide_eq_false (by omega)
 have HWL := Aside0.mk hwl
 have qk1 : (e.k == 1) = false := beq_eq_false_iff_ne.2 (by omega)
 have qk2 : (e.k == 2) = false := beq_eq_false_iff_ne.2 (by omega)
 have qk3 : (e.k == 3) = false := beq_eq_false_iff_ne.2 (by omega)
 have qk4 : (e.k == 4) = true := beq_iff_eq.2 hk
 rw [hx] at hi
 have i5 : (x.f0.f2 == 5) = false := beq_eq_false_iff_ne.2 (hi)
 have CR := Aside0.mk (fun W => rright_run e W)
 rw [hr] at CR
 have HN := Aside0.mk hn
 have HND := Aside0.mk nd
 have HB := Aside0.mk hB
 have HNW := Aside0.mk hnw
 have HLEN := Aside0.mk hlen
 have HRT := Aside0.mk hr
 have HJ := Aside0.mk (Rh.start hkr hkw hlen e)
 clear hn nd hB hkr hkw hlen hnw hr hwl hk hi
 have hcb := fun i => blk_cell HJ.out.b_ i
 have hce := fun i => blk_cell HJ.out.e_ i
 have hlb := blk_lt HJ.out.b_
 have hle := blk_lt HJ.out.e_
 have hlr := blk_lt HJ.out.r
 go_enter Try.func28, Try.ntmps28
 clear hx h0
 go_upto_region 8 with (first | (go_at_call 62; (with_reducible refine (CR.out _).mono ?_); rintro r w2 ⟨rfl, hb⟩; have HJ2 := Aside0.mk (HJ.out.step hb); clear hcb hce hlb hle hlr HJ; have HJ := HJ2; clear HJ2; have hcb := fun i => blk_cell HJ.out.b_ i; have hce := fun i => blk_cell HJ.out.e_ i; have hlb := blk_lt HJ.out.b_; have hle := blk_lt HJ.out.e_; have hlr := blk_lt HJ.out.r; clear hb) | ((with_reducible refine Go.Proofs.Ythniclbmpeklmaa.Ev.gate_load (t := 66) (p := 43) rfl ?_); go_loud (refine wpList_load_at rfl 66 _ rfl g (e.wk.toNat * 26) ?hx (wA x) _ ?hc hu3 rfl (wA_info x) ?_; (case hx => rfl); (case hc => obtain ⟨g2, q, _, q2⟩ := work_at HJ.out.len HJ.out.kw HW0.out HWL.out; rw [HXX.out] at q2; obtain rfl : g = g2 := (by injection q with q; injection q); exact q2))) | ((with_reducible refine gate_store (t := 66) (p := 8) rfl ?_); go_loud (refine wpList_store_row rfl 66 _ _ rfl (w2.heap.size) (wA x) rfl rfl 66 _ (blk_new w2 (.cells #[.int .i64 0, .int .i64 0, .int .i64 0, .int .i64 0, .int .i64 0, .int .i64 0, .int .i64 0, .int .i64 0, .int .i64 0, .int .i64 0, .bool false, .int .i64 0, .int .i64 0, .bool false, .int .i64 0, .int .i64 0, .int .i64 0, .int .i64 0, .int .i64 0, .int .i64 0, .int .i64 0, .int .i64 0, .int .i64 0, .int .i64 0, .bool false, .int .i64 0] 66)) (wA_info x) rfl (wA_one x) ?_; have HX := Aside0.mk (show Rx B w _ b A0 c0 (some ⟨g, 0, none⟩) c nw e w2.heap.size (wA x) from ⟨(HJ.out.newrow #[.int .i64 0, .int .i64 0, .int .i64 0, .int .i64 0, .int .i64 0, .int .i64 0, .int .i64 0, .int .i64 0, .int .i64 0, .int .i64 0, .bool false, .int .i64 0, .int .i64 0, .bool false, .int .i64 0, .int .i64 0, .int .i64 0, .int .i64 0, .int .i64 0, .int .i64 0, .int .i64 0, .int .i64 0, .int .i64 0, .int .i64 0, .bool false, .int .i64 0] (wA x) 66).1, (HJ.out.newrow #[.int .i64 0, .int .i64 0, .int .i64 0, .int .i64 0, .int .i64 0, .int .i64 0, .int .i64 0, .int .i64 0, .int .i64 0, .int .i64 0, .bool false, .int .i64 0, .int .i64 0, .bool false, .int .i64 0, .int .i64 0, .int .i64 0, .int .i64 0, .int .i64 0, .int .i64 0, .int .i64 0, .int .i64 0, .int .i64 0, .int .i64 0, .bool false, .int .i64 0] (wA x) 66).2, blk_lt HJ.out.r, own_ne HJ.out.len HJ.out.kw HW0.out HWL.out⟩); clear hcb hce hlb hle hlr HJ)))
 refine gen_world' (fun W => Rx B w W b A0 c0 (some ⟨g, 0, none⟩) c nw e w2.heap.size (wA x)) (by exact HX.out) fun W3 H3 => ?_
 have HX := Aside0.mk H3
 clear H3 p0 q0
 have hcb := fun i => blk_cell HX.out.rh.b_ i
 have hce := fun i => blk_cell HX.out.rh.e_ i
 have hlb := blk_lt HX.out.rh.b_
 have hle := blk_lt HX.out.rh.e_
 have hlr := blk_lt HX.out.rh.r
 have hcx := fun i => (show World.cell? _ ⟨w2.heap.size, i, none⟩ = (#[.int .i64 x.f0.f0, .int .i64 x.f0.f1, .int .i64 x.f0.f2, .int .i64 x.f0.f3.f0, .int .i64 x.f0.f3.f1, .int .i64 x.f0.f4.f0, .int .i64 x.f0.f4.f1, .int .i64 x.f0.f5, .int .i64 x.f0.f6, .int .i64 x.f0.f7, .bool x.f0.f8, .int .i64 x.f0.f9, .int .i64 x.f1, .bool x.f2, .int .i64 x.f3.f0, .int .i64 x.f3.f1, .int .i64 x.f3.f2, .int .i64 x.f3.f3.f0, .int .i64 x.f3.f3.f1, .int .i64 x.f3.f4.f0, .int .i64 x.f3.f4.f1, .int .i64 x.f3.f5, .int .i64 x.f3.f6, .int .i64 x.f3.f7, .bool x.f3.f8, .int .i64 x.f3.f9] : Array Value)[i]? from blk_cell HX.out.x_ i)
 have hlx := blk_lt HX.out.x_
 go_wp2_with (first | ((with_reducible refine gate_store (t := 46) (p := 4) rfl ?_); go_loud (refine wpList_store_row rfl 46 _ _ rfl (w.heap.size + 1 + 1) #[.int .i64 b.m.clk, .slice A0 b.m.L.length c0, .slice (some ⟨g, 0, none⟩) nw c] rfl rfl 46 _ HX.out.rh.r (by kernel_rfl) rfl (by simp [Value.oneCell']) ?_; have HFIN := Aside0.mk (HX.out.rh.fin #[.int .i64 b.m.clk, .slice A0 b.m.L.length c0, .slice (some ⟨g, 0, none⟩) nw c] HX.out.rh.kr HX.out.rh.kw))))
 obtain ⟨hr9, hk9, hw9, hb9⟩ := HFIN.out
 unfold RhPost
 rw [HF.out]
 refine bodyPost_ret (v := .tuple #[.agg #[.int .i64 b.m.clk, .slice A0 b.m.L.length c0, .slice (some ⟨g, 0, none⟩) nw c], .int .i64 6]) ?_ rfl ⟨A0, c0, some ⟨g, 0, none⟩, c, rfl, hk9, hw9, hb9, HLEN.out⟩
 have hrow := run_loadVar_row (P := Try.prog) _ (w.heap.size + 1 + 1) 46 46 _ (0, 0) _ hr9 hu0 rfl (by kernel_rfl)
 simp [results, Try.results28, asAddr, hrow]
theorem rhear_fire_early {w : World} {B : Nat} (b : Rb) (A0 : Option Addr) (c0 : Nat) (A : Option Addr) (c nw : Nat) (e : Au.Ev) (hn : b.m.L.length ≤ 90000) (nd : (b.m.L.map S127.h).Nodup) (hB : B ≤ w.heap.size) (hkr : KR w B (.slice A0 b.m.L.length c0) b.m.L) (hkw : KW w B (.slice A nw c) b.W) (hlen : b.W.length = nw) (hnw : nw ≤ 64) (hr : rightJ e = true) (hwl : e.wk < (nw : Int)) (hk : e.k = 4) (hi : (rd_T66 b.W e.wk).f0.f2 = 5) (ht : ¬ (rd_T66 b.W e.wk).f1 ≤ e.t) :
  Calls Try.prog 28 #[.agg #[.int .i64 b.m.clk, .slice A0 b.m.L.length c0, .slice A nw c], .agg (evA e)] w (RhPost B w nw (rhearF b e)) := by
 have hu0 := Try.underlying46
 have hu1 := Try.underlying36
 have hu2 := Try.underlying50
 have hu3 := Try.underlying66
 have hu4 := Try.underlying43
 have hu5 := Try.underlying44
 have HF := Aside0.mk (show rhearF b e = (b, 6) by unfold rhearF; rw [if_neg (by rw [hr, hlen]; simp; omega), if_neg (show ¬ e.k = 1 by omega), if_neg (show ¬ e.k = 2 by omega), if_neg (show ¬ e.k = 3 by omega), if_pos hk]; rw [if_neg (fun q => ht q.2)])
 have h0 := right_wk hr
 have HW0 := Aside0.mk h0
 obtain ⟨g, rfl, _, _⟩ := work_at hlen hkw h0 hwl
 obtain ⟨x, hx⟩ : ∃ x, rd_T66 b.W e.wk = x := ⟨_, rfl⟩
 have HXX := Aside0.mk hx
 have p0 : (0 ≤ e.wk) = True := eq_true h0
 have q0 : (e.wk < (nw : Int)) = True := eq_true hwl
 have d0 : decide (e.wk ≥ (nw : Int)) = false := decide_eq_false (by omega)
 have HWL := Aside0.mk hwl
 have qk1 : (e.k == 1) = false := beq_eq_false_iff_ne.2 (by omega)
 have qk2 : (e.k == 2) = false := beq_eq_false_iff_ne.2 (by omega)
 have qk3 : (e.k == 3) = false := beq_eq_false_iff_ne.2 (by omega)
 have qk4 : (e.k == 4) = true := beq_iff_eq.2 hk
 rw [hx] at hi ht
 have i5 : (x.f0.f2 == 5) = true := beq_iff_eq.2 (hi)
 have t5 : decide (e.t ≥ x.f1) = false := decide_eq_false (by omega)
 have CR := Aside0.mk (fun W => rright_run e W)
 rw [hr] at CR
 have HN := Aside0.mk hn
 have HND := Aside0.mk nd
 have HB := Aside0.mk hB
 have HNW := Aside0.mk hnw
 have HLEN := Aside0.mk hlen
 have HRT := Aside0.mk hr
 have HJ := Aside0.mk (Rh.start hkr hkw hlen e)
 clear hn nd hB hkr hkw hlen hnw hr hwl hk hi ht
 have hcb := fun i => blk_cell HJ.out.b_ i
 have hce := fun i => blk_cell HJ.out.e_ i
 have hlb := blk_lt HJ.out.b_
 have hle := blk_lt HJ.out.e_
 have hlr := blk_lt HJ.out.r
 go_enter Try.func28, Try.ntmps28
 clear hx h0
 go_upto_region 8 with (first | (go_at_call 62; (with_reducible refine (CR.out _).mono ?_); rintro r w2 ⟨rfl, hb⟩; have HJ2 := Aside0.mk (HJ.out.step hb); clear hcb hce hlb hle hlr HJ; have HJ := HJ2; clear HJ2; have hcb := fun i => blk_cell HJ.out.b_ i; have hce := fun i => blk_cell HJ.out.e_ i; have hlb := blk_lt HJ.out.b_; have hle := blk_lt HJ.out.e_; have hlr := blk_lt HJ.out.r; clear hb) | ((with_reducible refine Go.Proofs.Ythniclbmpeklmaa.Ev.gate_load (t := 66) (p := 43) rfl ?_); go_loud (refine wpList_load_at rfl 66 _ rfl g (e.wk.toNat * 26) ?hx (wA x) _ ?hc hu3 rfl (wA_info x) ?_; (case hx => rfl); (case hc => obtain ⟨g2, q, _, q2⟩ := work_at HJ.out.len HJ.out.kw HW0.out HWL.out; rw [HXX.out] at q2; obtain rfl : g = g2 := (by injection q with q; injection q); exact q2))) | ((with_reducible refine gate_store (t := 66) (p := 8) rfl ?_); go_loud (refine wpList_store_row rfl 66 _ _ rfl (w2.heap.size) (wA x) rfl rfl 66 _ (blk_new w2 (.cells #[.int .i64 0, .int .i64 0, .int .i64 0, .int .i64 0, .int .i64 0, .int .i64 0, .int .i64 0, .int .i64 0, .int .i64 0, .int .i64 0, .bool false, .int .i64 0, .int .i64 0, .bool false, .int .i64 0, .int .i64 0, .int .i64 0, .int .i64 0, .int .i64 0, .int .i64 0, .int .i64 0, .int .i64 0, .int .i64 0, .int .i64 0, .bool false, .int .i64 0] 66)) (wA_info x) rfl (wA_one x) ?_; have HX := Aside0.mk (show Rx B w _ b A0 c0 (some ⟨g, 0, none⟩) c nw e w2.heap.size (wA x) from ⟨(HJ.out.newrow #[.int .i64 0, .int .i64 0, .int .i64 0, .int .i64 0, .int .i64 0, .int .i64 0, .int .i64 0, .int .i64 0, .int .i64 0, .int .i64 0, .bool false, .int .i64 0, .int .i64 0, .bool false, .int .i64 0, .int .i64 0, .int .i64 0, .int .i64 0, .int .i64 0, .int .i64 0, .int .i64 0, .int .i64 0, .int .i64 0, .int .i64 0, .bool false, .int .i64 0] (wA x) 66).1, (HJ.out.newrow #[.int .i64 0, .int .i64 0, .int .i64 0, .int .i64 0, .int .i64 0, .int .i64 0, .int .i64 0, .int .i64 0, .int .i64 0, .int .i64 0, .bool false, .int .i64 0, .int .i64 0, .bool false, .int .i64 0, .int .i64 0, .int .i64 0, .int .i64 0, .int .i64 0, .int .i64 0, .int .i64 0, .int .i64 0, .int .i64 0, .int .i64 0, .bool false, .int .i64 0] (wA x) 66).2, blk_lt HJ.out.r, own_ne HJ.out.len HJ.out.kw HW0.out HWL.out⟩); clear hcb hce hlb hle hlr HJ)))
 refine gen_world' (fun W => Rx B w W b A0 c0 (some ⟨g, 0, none⟩) c nw e w2.heap.size (wA x)) (by exact HX.out) fun W3 H3 => ?_
 have HX := Aside0.mk H3
 clear H3 p0 q0
 have hcb := fun i => blk_cell HX.out.rh.b_ i
 have hce := fun i => blk_cell HX.out.rh.e_ i
 have hlb := blk_lt HX.out.rh.b_
 have hle := blk_lt HX.out.rh.e_
 have hlr := blk_lt HX.out.rh.r
 have hcx := fun i => (show World.cell? _ ⟨w2.heap.size, i, none⟩ = (#[.int .i64 x.f0.f0, .int .i64 x.f0.f1, .int .i64 x.f0.f2, .int .i64 x.f0.f3.f0, .int .i64 x.f0.f3.f1, .int .i64 x.f0.f4.f0, .int .i64 x.f0.f4.f1, .int .i64 x.f0.f5, .int .i64 x.f0.f6, .int .i64 x.f0.f7, .bool x.f0.f8, .int .i64 x.f0.f9, .int .i64 x.f1, .bool x.f2, .int .i64 x.f3.f0, .int .i64 x.f3.f1, .int .i64 x.f3.f2, .int .i64 x.f3.f3.f0, .int .i64 x.f3.f3.f1, .int .i64 x.f3.f4.f0, .int .i64 x.f3.f4.f1, .int .i64 x.f3.f5, .int .i64 x.f3.f6, .int .i64 x.f3.f7, .bool x.f3.f8, .int .i64 x.f3.f9] : Array Value)[i]? from blk_cell HX.out.x_ i)
 have hlx := blk_lt HX.out.x_
 go_wp2_with (first | ((with_reducible refine gate_store (t := 46) (p := 4) rfl ?_); go_loud (refine wpList_store_row rfl 46 _ _ rfl (w.heap.size + 1 + 1) #[.int .i64 b.m.clk, .slice A0 b.m.L.length c0, .slice (some ⟨g, 0, none⟩) nw c] rfl rfl 46 _ HX.out.rh.r (by kernel_rfl) rfl (by simp [Value.oneCell']) ?_; have HFIN := Aside0.mk (HX.out.rh.fin #[.int .i64 b.m.clk, .slice A0 b.m.L.length c0, .slice (some ⟨g, 0, none⟩) nw c] HX.out.rh.kr HX.out.rh.kw))))
 obtain ⟨hr9, hk9, hw9, hb9⟩ := HFIN.out
 unfold RhPost
 rw [HF.out]
 refine bodyPost_ret (v := .tuple #[.agg #[.int .i64 b.m.clk, .slice A0 b.m.L.length c0, .slice (some ⟨g, 0, none⟩) nw c], .int .i64 6]) ?_ rfl ⟨A0, c0, some ⟨g, 0, none⟩, c, rfl, hk9, hw9, hb9, HLEN.out⟩
 have hrow := run_loadVar_row (P := Try.prog) _ (w.heap.size + 1 + 1) 46 46 _ (0, 0) _ hr9 hu0 rfl (by kernel_rfl)
 simp [results, Try.results28, asAddr, hrow]
theorem rhear_back_op_hi {w : World} {B : Nat} (b : Rb) (A0 : Option Addr) (c0 : Nat) (A : Option Addr) (c nw : Nat) (e : Au.Ev) (hn : b.m.L.length ≤ 90000) (nd : (b.m.L.map S127.h).Nodup) (hB : B ≤ w.heap.size) (hkr : KR w B (.slice A0 b.m.L.length c0) b.m.L) (hkw : KW w B (.slice A nw c) b.W) (hlen : b.W.length = nw) (hnw : nw ≤ 64) (hr : rightJ e = true) (hwl : e.wk < (nw : Int)) (hk : e.k = 5) (ho : ¬ (rd_T66 b.W e.wk).f0.f2 = e.op) (h4 : ¬ e.op ≤ 4) :
  Calls Try.prog 28 #[.agg #[.int .i64 b.m.clk, .slice A0 b.m.L.length c0, .slice A nw c], .agg (evA e)] w (RhPost B w nw (rhearF b e)) := by
 have hu0 := Try.underlying46
 have hu1 := Try.underlying36
 have hu2 := Try.underlying50
 have hu3 := Try.underlying66
 have hu4 := Try.underlying43
 have hu5 := Try.underlying44
 have HF := Aside0.mk (show rhearF b e = (b, 6) by unfold rhearF; rw [if_neg (by rw [hr, hlen]; simp; omega), if_neg (show ¬ e.k = 1 by omega), if_neg (show ¬ e.k = 2 by omega), if_neg (show ¬ e.k = 3 by omega), if_neg (show ¬ e.k = 4 by omega)]; rw [if_neg (by unfold rans; simp only [Bool.and_eq_true, Bool.or_eq_true, beq_iff_eq, Bool.not_eq_true', decide_eq_false_iff_not]; simp_all)])
 have h0 := right_wk hr
 have HW0 := Aside0.mk h0
 obtain ⟨g, rfl, _, _⟩ := work_at hlen hkw h0 hwl
 obtain ⟨x, hx⟩ : ∃ x, rd_T66 b.W e.wk = x := ⟨_, rfl⟩
 have HXX := Aside0.mk hx
 have p0 : (0 ≤ e.wk) = True := eq_true h0
 have q0 : (e.wk < (nw : Int)) = True := eq_true hwl
 have d0 : decide (e.wk ≥ (nw : Int)) = false := decide_eq_false (by omega)
 have HWL := Aside0.mk hwl
 have qk1 : (e.k == 1) = false := beq_eq_false_iff_ne.2 (by omega)
 have qk2 : (e.k == 2) = false := beq_eq_false_iff_ne.2 (by omega)
 have qk3 : (e.k == 3) = false := beq_eq_false_iff_ne.2 (by omega)
 have qk4 : (e.k == 4) = false := beq_eq_false_iff_ne.2 (by omega)
 rw [hx] at ho
 have o0 : (x.f0.f2 == e.op) = false := beq_eq_false_iff_ne.2 (ho)
 have l4 : decide (e.op ≤ 4) = false := decide_eq_false (h4)
 have CR := Aside0.mk (fun W => rright_run e W)
 rw [hr] at CR
 have HN := Aside0.mk hn
 have HND := Aside0.mk nd
 have HB := Aside0.mk hB
 have HNW := Aside0.mk hnw
 have HLEN := Aside0.mk hlen
 have HRT := Aside0.mk hr
 have HJ := Aside0.mk (Rh.start hkr hkw hlen e)
 clear hn nd hB hkr hkw hlen hnw hr hwl hk ho h4
 have hcb := fun i => blk_cell HJ.out.b_ i
 have hce := fun i => blk_cell HJ.out.e_ i
 have hlb := blk_lt HJ.out.b_
 have hle := blk_lt HJ.out.e_
 have hlr := blk_lt HJ.out.r
 go_enter Try.func28, Try.ntmps28
 clear hx h0
 go_upto_region 8 with (first | (go_at_call 62; (with_reducible refine (CR.out _).mono ?_); rintro r w2 ⟨rfl, hb⟩; have HJ2 := Aside0.mk (HJ.out.step hb); clear hcb hce hlb hle hlr HJ; have HJ := HJ2; clear HJ2; have hcb := fun i => blk_cell HJ.out.b_ i; have hce := fun i => blk_cell HJ.out.e_ i; have hlb := blk_lt HJ.out.b_; have hle := blk_lt HJ.out.e_; have hlr := blk_lt HJ.out.r; clear hb) | ((with_reducible refine Go.Proofs.Ythniclbmpeklmaa.Ev.gate_load (t := 66) (p := 43) rfl ?_); go_loud (refine wpList_load_at rfl 66 _ rfl g (e.wk.toNat * 26) ?hx (wA x) _ ?hc hu3 rfl (wA_info x) ?_; (case hx => rfl); (case hc => obtain ⟨g2, q, _, q2⟩ := work_at HJ.out.len HJ.out.kw HW0.out HWL.out; rw [HXX.out] at q2; obtain rfl : g = g2 := (by injection q with q; injection q); exact q2))) | ((with_reducible refine gate_store (t := 66) (p := 8) rfl ?_); go_loud (refine wpList_store_row rfl 66 _ _ rfl (w2.heap.size) (wA x) rfl rfl 66 _ (blk_new w2 (.cells #[.int .i64 0, .int .i64 0, .int .i64 0, .int .i64 0, .int .i64 0, .int .i64 0, .int .i64 0, .int .i64 0, .int .i64 0, .int .i64 0, .bool false, .int .i64 0, .int .i64 0, .bool false, .int .i64 0, .int .i64 0, .int .i64 0, .int .i64 0, .int .i64 0, .int .i64 0, .int .i64 0, .int .i64 0, .int .i64 0, .int .i64 0, .bool false, .int .i64 0] 66)) (wA_info x) rfl (wA_one x) ?_; have HX := Aside0.mk (show Rx B w _ b A0 c0 (some ⟨g, 0, none⟩) c nw e w2.heap.size (wA x) from ⟨(HJ.out.newrow #[.int .i64 0, .int .i64 0, .int .i64 0, .int .i64 0, .int .i64 0, .int .i64 0, .int .i64 0, .int .i64 0, .int .i64 0, .int .i64 0, .bool false, .int .i64 0, .int .i64 0, .bool false, .int .i64 0, .int .i64 0, .int .i64 0, .int .i64 0, .int .i64 0, .int .i64 0, .int .i64 0, .int .i64 0, .int .i64 0, .int .i64 0, .bool false, .int .i64 0] (wA x) 66).1, (HJ.out.newrow #[.int .i64 0, .int .i64 0, .int .i64 0, .int .i64 0, .int .i64 0, .int .i64 0, .int .i64 0, .int .i64 0, .int .i64 0, .int .i64 0, .bool false, .int .i64 0, .int .i64 0, .bool false, .int .i64 0, .int .i64 0, .int .i64 0, .int .i64 0, .int .i64 0, .int .i64 0, .int .i64 0, .int .i64 0, .int .i64 0, .int .i64 0, .bool false, .int .i64 0] (wA x) 66).2, blk_lt HJ.out.r, own_ne HJ.out.len HJ.out.kw HW0.out HWL.out⟩); clear hcb hce hlb hle hlr HJ)))
 refine gen_world' (fun W => Rx B w W b A0 c0 (some ⟨g, 0, none⟩) c nw e w2.heap.size (wA x)) (by exact HX.out) fun W3 H3 => ?_
 have HX := Aside0.mk H3
 clear H3 p0 q0
 have hcb := fun i => blk_cell HX.out.rh.b_ i
 have hce := fun i => blk_cell HX.out.rh.e_ i
 have hlb := blk_lt HX.out.rh.b_
 have hle := blk_lt HX.out.rh.e_
 have hlr := blk_lt HX.out.rh.r
 have hcx := fun i => (show World.cell? _ ⟨w2.heap.size, i, none⟩ = (#[.int .i64 x.f0.f0, .int .i64 x.f0.f1, .int .i64 x.f0.f2, .int .i64 x.f0.f3.f0, .int .i64 x.f0.f3.f1, .int .i64 x.f0.f4.f0, .int .i64 x.f0.f4.f1, .int .i64 x.f0.f5, .int .i64 x.f0.f6, .int .i64 x.f0.f7, .bool x.f0.f8, .int .i64 x.f0.f9, .int .i64 x.f1, .bool x.f2, .int .i64 x.f3.f0, .int .i64 x.f3.f1, .int .i64 x.f3.f2, .int .i64 x.f3.f3.f0, .int .i64 x.f3.f3.f1, .int .i64 x.f3.f4.f0, .int .i64 x.f3.f4.f1, .int .i64 x.f3.f5, .int .i64 x.f3.f6, .int .i64 x.f3.f7, .bool x.f3.f8, .int .i64 x.f3.f9] : Array Value)[i]? from blk_cell HX.out.x_ i)
 have hlx := blk_lt HX.out.x_
 go_wp2_with (first | ((with_reducible refine gate_store (t := 46) (p := 4) rfl ?_); go_loud (refine wpList_store_row rfl 46 _ _ rfl (w.heap.size + 1 + 1) #[.int .i64 b.m.clk, .slice A0 b.m.L.length c0, .slice (some ⟨g, 0, none⟩) nw c] rfl rfl 46 _ HX.out.rh.r (by kernel_rfl) rfl (by simp [Value.oneCell']) ?_; have HFIN := Aside0.mk (HX.out.rh.fin #[.int .i64 b.m.clk, .slice A0 b.m.L.length c0, .slice (some ⟨g, 0, none⟩) nw c] HX.out.rh.kr HX.out.rh.kw))))
 obtain ⟨hr9, hk9, hw9, hb9⟩ := HFIN.out
 unfold RhPost
 rw [HF.out]
 refine bodyPost_ret (v := .tuple #[.agg #[.int .i64 b.m.clk, .slice A0 b.m.L.length c0, .slice (some ⟨g, 0, none⟩) nw c], .int .i64 6]) ?_ rfl ⟨A0, c0, some ⟨g, 0, none⟩, c, rfl, hk9, hw9, hb9, HLEN.out⟩
 have hrow := run_loadVar_row (P := Try.prog) _ (w.heap.size + 1 + 1) 46 46 _ (0, 0) _ hr9 hu0 rfl (by kernel_rfl)
 simp [results, Try.results28, asAddr, hrow]
theorem rhear_back_op_lo {w : World} {B : Nat} (b : Rb) (A0 : Option Addr) (c0 : Nat) (A : Option Addr) (c nw : Nat) (e : Au.Ev) (hn : b.m.L.length ≤ 90000) (nd : (b.m.L.map S127.h).Nodup) (hB : B ≤ w.heap.size) (hkr : KR w B (.slice A0 b.m.L.length c0) b.m.L) (hkw : KW w B (.slice A nw c) b.W) (hlen : b.W.length = nw) (hnw : nw ≤ 64) (hr : rightJ e = true) (hwl : e.wk < (nw : Int)) (hk : e.k = 5) (ho : ¬ (rd_T66 b.W e.wk).f0.f2 = e.op) (h4 : e.op ≤ 4) :
  Calls Try.prog 28 #[.agg #[.int .i64 b.m.clk, .slice A0 b.m.L.length c0, .slice A nw c], .agg (evA e)] w (RhPost B w nw (rhearF b e)) := by
 have hu0 := Try.underlying46
 have hu1 := Try.underlying36
 have hu2 := Try.underlying50
 have hu3 := Try.underlying66
 have hu4 := Try.underlying43
 have hu5 := Try.underlying44
 have HF := Aside0.mk (show rhearF b e = (b, 6) by unfold rhearF; rw [if_neg (by rw [hr, hlen]; simp; omega), if_neg (show ¬ e.k = 1 by omega), if_neg (show ¬ e.k = 2 by omega), if_neg (show ¬ e.k = 3 by omega), if_neg (show ¬ e.k = 4 by omega)]; rw [if_neg (by unfold rans; simp only [Bool.and_eq_true, Bool.or_eq_true, beq_iff_eq, Bool.not_eq_true', decide_eq_false_iff_not]; simp_all)])
 have h0 := right_wk hr
 have HW0 := Aside0.mk h0
 obtain ⟨g, rfl, _, _⟩ := work_at hlen hkw h0 hwl
 obtain ⟨x, hx⟩ : ∃ x, rd_T66 b.W e.wk = x := ⟨_, rfl⟩
 have HXX := Aside0.mk hx
 have p0 : (0 ≤ e.wk) = True := eq_true h0
 have q0 : (e.wk < (nw : Int)) = True := eq_true hwl
 have d0 : decide (e.wk ≥ (nw : Int)) = false := decide_eq_false (by omega)
 have HWL := Aside0.mk hwl
 have qk1 : (e.k == 1) = false := beq_eq_false_iff_ne.2 (by omega)
 have qk2 : (e.k == 2) = false := beq_eq_false_iff_ne.2 (by omega)
 have qk3 : (e.k == 3) = false := beq_eq_false_iff_ne.2 (by omega)
 have qk4 : (e.k == 4) = false := beq_eq_false_iff_ne.2 (by omega)
 rw [hx] at ho
 have o0 : (x.f0.f2 == e.op) = false := beq_eq_false_iff_ne.2 (ho)
 have l4 : decide (e.op ≤ 4) = true := decide_eq_true (h4)
 have CR := Aside0.mk (fun W => rright_run e W)
 rw [hr] at CR
 have HN := Aside0.mk hn
 have HND := Aside0.mk nd
 have HB := Aside0.mk hB
 have HNW := Aside0.mk hnw
 have HLEN := Aside0.mk hlen
 have HRT := Aside0.mk hr
 have HJ := Aside0.mk (Rh.start hkr hkw hlen e)
 clear hn nd hB hkr hkw hlen hnw hr hwl hk ho h4
 have hcb := fun i => blk_cell HJ.out.b_ i
 have hce := fun i => blk_cell HJ.out.e_ i
 have hlb := blk_lt HJ.out.b_
 have hle := blk_lt HJ.out.e_
 have hlr := blk_lt HJ.out.r
 go_enter Try.func28, Try.ntmps28
 clear hx h0
 go_upto_region 8 with (first | (go_at_call 62; (with_reducible refine (CR.out _).mono ?_); rintro r w2 ⟨rfl, hb⟩; have HJ2 := Aside0.mk (HJ.out.step hb); clear hcb hce hlb hle hlr HJ; have HJ := HJ2; clear HJ2; have hcb := fun i => blk_cell HJ.out.b_ i; have hce := fun i => blk_cell HJ.out.e_ i; have hlb := blk_lt HJ.out.b_; have hle := blk_lt HJ.out.e_; have hlr := blk_lt HJ.out.r; clear hb) | ((with_reducible refine Go.Proofs.Ythniclbmpeklmaa.Ev.gate_load (t := 66) (p := 43) rfl ?_); go_loud (refine wpList_load_at rfl 66 _ rfl g (e.wk.toNat * 26) ?hx (wA x) _ ?hc hu3 rfl (wA_info x) ?_; (case hx => rfl); (case hc => obtain ⟨g2, q, _, q2⟩ := work_at HJ.out.len HJ.out.kw HW0.out HWL.out; rw [HXX.out] at q2; obtain rfl : g = g2 := (by injection q with q; injection q); exact q2))) | ((with_reducible refine gate_store (t := 66) (p := 8) rfl ?_); go_loud (refine wpList_store_row rfl 66 _ _ rfl (w2.heap.size) (wA x) rfl rfl 66 _ (blk_new w2 (.cells #[.int .i64 0, .int .i64 0, .int .i64 0, .int .i64 0, .int .i64 0, .int .i64 0, .int .i64 0, .int .i64 0, .int .i64 0, .int .i64 0, .bool false, .int .i64 0, .int .i64 0, .bool false, .int .i64 0, .int .i64 0, .int .i64 0, .int .i64 0, .int .i64 0, .int .i64 0, .int .i64 0, .int .i64 0, .int .i64 0, .int .i64 0, .bool false, .int .i64 0] 66)) (wA_info x) rfl (wA_one x) ?_; have HX := Aside0.mk (show Rx B w _ b A0 c0 (some ⟨g, 0, none⟩) c nw e w2.heap.size (wA x) from ⟨(HJ.out.newrow #[.int .i64 0, .int .i64 0, .int .i64 0, .int .i64 0, .int .i64 0, .int .i64 0, .int .i64 0, .int .i64 0, .int .i64 0, .int .i64 0, .bool false, .int .i64 0, .int .i64 0, .bool false, .int .i64 0, .int .i64 0, .int .i64 0, .int .i64 0, .int .i64 0, .int .i64 0, .int .i64 0, .int .i64 0, .int .i64 0, .int .i64 0, .bool false, .int .i64 0] (wA x) 66).1, (HJ.out.newrow #[.int .i64 0, .int .i64 0, .int .i64 0, .int .i64 0, .int .i64 0, .int .i64 0, .int .i64 0, .int .i64 0, .int .i64 0, .int .i64 0, .bool false, .int .i64 0, .int .i64 0, .bool false, .int .i64 0, .int .i64 0, .int .i64 0, .int .i64 0, .int .i64 0, .int .i64 0, .int .i64 0, .int .i64 0, .int .i64 0, .int .i64 0, .bool false, .int .i64 0] (wA x) 66).2, blk_lt HJ.out.r, own_ne HJ.out.len HJ.out.kw HW0.out HWL.out⟩); clear hcb hce hlb hle hlr HJ)))
 refine gen_world' (fun W => Rx B w W b A0 c0 (some ⟨g, 0, none⟩) c nw e w2.heap.size (wA x)) (by exact HX.out) fun W3 H3 => ?_
 have HX := Aside0.mk H3
 clear H3 p0 q0
 have hcb := fun i => blk_cell HX.out.rh.b_ i
 have hce := fun i => blk_cell HX.out.rh.e_ i
 have hlb := blk_lt HX.out.rh.b_
 have hle := blk_lt HX.out.rh.e_
 have hlr := blk_lt HX.out.rh.r
 have hcx := fun i => (show World.cell? _ ⟨w2.heap.size, i, none⟩ = (#[.int .i64 x.f0.f0, .int .i64 x.f0.f1, .int .i64 x.f0.f2, .int .i64 x.f0.f3.f0, .int .i64 x.f0.f3.f1, .int .i64 x.f0.f4.f0, .int .i64 x.f0.f4.f1, .int .i64 x.f0.f5, .int .i64 x.f0.f6, .int .i64 x.f0.f7, .bool x.f0.f8, .int .i64 x.f0.f9, .int .i64 x.f1, .bool x.f2, .int .i64 x.f3.f0, .int .i64 x.f3.f1, .int .i64 x.f3.f2, .int .i64 x.f3.f3.f0, .int .i64 x.f3.f3.f1, .int .i64 x.f3.f4.f0, .int .i64 x.f3.f4.f1, .int .i64 x.f3.f5, .int .i64 x.f3.f6, .int .i64 x.f3.f7, .bool x.f3.f8, .int .i64 x.f3.f9] : Array Value)[i]? from blk_cell HX.out.x_ i)
 have hlx := blk_lt HX.out.x_
 go_wp2_with (first | ((with_reducible refine gate_store (t := 46) (p := 4) rfl ?_); go_loud (refine wpList_store_row rfl 46 _ _ rfl (w.heap.size + 1 + 1) #[.int .i64 b.m.clk, .slice A0 b.m.L.length c0, .slice (some ⟨g, 0, none⟩) nw c] rfl rfl 46 _ HX.out.rh.r (by kernel_rfl) rfl (by simp [Value.oneCell']) ?_; have HFIN := Aside0.mk (HX.out.rh.fin #[.int .i64 b.m.clk, .slice A0 b.m.L.length c0, .slice (some ⟨g, 0, none⟩) nw c] HX.out.rh.kr HX.out.rh.kw))))
 obtain ⟨hr9, hk9, hw9, hb9⟩ := HFIN.out
 unfold RhPost
 rw [HF.out]
 refine bodyPost_ret (v := .tuple #[.agg #[.int .i64 b.m.clk, .slice A0 b.m.L.length c0, .slice (some ⟨g, 0, none⟩) nw c], .int .i64 6]) ?_ rfl ⟨A0, c0, some ⟨g, 0, none⟩, c, rfl, hk9, hw9, hb9, HLEN.out⟩
 have hrow := run_loadVar_row (P := Try.prog) _ (w.heap.size + 1 + 1) 46 46 _ (0, 0) _ hr9 hu0 rfl (by kernel_rfl)
 simp [results, Try.results28, asAddr, hrow]
theorem rhear_back_un {w : World} {B : Nat} (b : Rb) (A0 : Option Addr) (c0 : Nat) (A : Option Addr) (c nw : Nat) (e : Au.Ev) (hn : b.m.L.length ≤ 90000) (nd : (b.m.L.map S127.h).Nodup) (hB : B ≤ w.heap.size) (hkr : KR w B (.slice A0 b.m.L.length c0) b.m.L) (hkw : KW w B (.slice A nw c) b.W) (hlen : b.W.length = nw) (hnw : nw ≤ 64) (hr : rightJ e = true) (hwl : e.wk < (nw : Int)) (hk : e.k = 5) (ho : (rd_T66 b.W e.wk).f0.f2 = e.op) (h4 : e.op ≤ 4) (hp : (rd_T66 b.W e.wk).f2 = false) :
  Calls Try.prog 28 #[.agg #[.int .i64 b.m.clk, .slice A0 b.m.L.length c0, .slice A nw c], .agg (evA e)] w (RhPost B w nw (rhearF b e)) := by
 have hu0 := Try.underlying46
 have hu1 := Try.underlying36
 have hu2 := Try.underlying50
 have hu3 := Try.underlying66
 have hu4 := Try.underlying43
 have hu5 := Try.underlying44
 have HF := Aside0.mk (show rhearF b e = (b, 6) by unfold rhearF; rw [if_neg (by rw [hr, hlen]; simp; omega), if_neg (show ¬ e.k = 1 by omega), if_neg (show ¬ e.k = 2 by omega), if_neg (show ¬ e.k = 3 by omega), if_neg (show ¬ e.k = 4 by omega)]; rw [if_neg (by unfold rans; simp only [Bool.and_eq_true, Bool.or_eq_true, beq_iff_eq, Bool.not_eq_true', decide_eq_false_iff_not]; simp_all)])
 have h0 := right_wk hr
 have HW0 := Aside0.mk h0
 obtain ⟨g, rfl, _, _⟩ := work_at hlen hkw h0 hwl
 obtain ⟨x, hx⟩ : ∃ x, rd_T66 b.W e.wk = x := ⟨_, rfl⟩
 have HXX := Aside0.mk hx
 have p0 : (0 ≤ e.wk) = True := eq_true h0
 have q0 : (e.wk < (nw : Int)) = True := eq_true hwl
 have d0 : decide (e.wk ≥ (nw : Int)) = false := decide_eq_false (by omega)
 have HWL := Aside0.mk hwl
 have qk1 : (e.k == 1) = false := beq_eq_false_iff_ne.2 (by omega)
 have qk2 : (e.k == 2) = false := beq_eq_false_iff_ne.2 (by omega)
 have qk3 : (e.k == 3) = false := beq_eq_false_iff_ne.2 (by omega)
 have qk4 : (e.k == 4) = false := beq_eq_false_iff_ne.2 (by omega)
 rw [hx] at ho hp
 have o0 : (x.f0.f2 == e.op) = true := beq_iff_eq.2 (ho)
 have l4 : decide (e.op ≤ 4) = true := decide_eq_true (h4)
 have zhp := hp
 have CR := Aside0.mk (fun W => rright_run e W)
 rw [hr] at CR
 have HN := Aside0.mk hn
 have HND := Aside0.mk nd
 have HB := Aside0.mk hB
 have HNW := Aside0.mk hnw
 have HLEN := Aside0.mk hlen
 have HRT := Aside0.mk hr
 have HJ := Aside0.mk (Rh.start hkr hkw hlen e)
 clear hn nd hB hkr hkw hlen hnw hr hwl hk ho h4 hp
 have hcb := fun i => blk_cell HJ.out.b_ i
 have hce := fun i => blk_cell HJ.out.e_ i
 have hlb := blk_lt HJ.out.b_
 have hle := blk_lt HJ.out.e_
 have hlr := blk_lt HJ.out.r
 go_enter Try.func28, Try.ntmps28
 clear hx h0
 go_upto_region 8 with (first | (go_at_call 62; (with_reducible refine (CR.out _).mono ?_); rintro r w2 ⟨rfl, hb⟩; have HJ2 := Aside0.mk (HJ.out.step hb); clear hcb hce hlb hle hlr HJ; have HJ := HJ2; clear HJ2; have hcb := fun i => blk_cell HJ.out.b_ i; have hce := fun i => blk_cell HJ.out.e_ i; have hlb := blk_lt HJ.out.b_; have hle := blk_lt HJ.out.e_; have hlr := blk_lt HJ.out.r; clear hb) | ((with_reducible refine Go.Proofs.Ythniclbmpeklmaa.Ev.gate_load (t := 66) (p := 43) rfl ?_); go_loud (refine wpList_load_at rfl 66 _ rfl g (e.wk.toNat * 26) ?hx (wA x) _ ?hc hu3 rfl (wA_info x) ?_; (case hx => rfl); (case hc => obtain ⟨g2, q, _, q2⟩ := work_at HJ.out.len HJ.out.kw HW0.out HWL.out; rw [HXX.out] at q2; obtain rfl : g = g2 := (by injection q with q; injection q); exact q2))) | ((with_reducible refine gate_store (t := 66) (p := 8) rfl ?_); go_loud (refine wpList_store_row rfl 66 _ _ rfl (w2.heap.size) (wA x) rfl rfl 66 _ (blk_new w2 (.cells #[.int .i64 0, .int .i64 0, .int .i64 0, .int .i64 0, .int .i64 0, .int .i64 0, .int .i64 0, .int .i64 0, .int .i64 0, .int .i64 0, .bool false, .int .i64 0, .int .i64 0, .bool false, .int .i64 0, .int .i64 0, .int .i64 0, .int .i64 0, .int .i64 0, .int .i64 0, .int .i64 0, .int .i64 0, .int .i64 0, .int .i64 0, .bool false, .int .i64 0] 66)) (wA_info x) rfl (wA_one x) ?_; have HX := Aside0.mk (show Rx B w _ b A0 c0 (some ⟨g, 0, none⟩) c nw e w2.heap.size (wA x) from ⟨(HJ.out.newrow #[.int .i64 0, .int .i64 0, .int .i64 0, .int .i64 0, .int .i64 0, .int .i64 0, .int .i64 0, .int .i64 0, .int .i64 0, .int .i64 0, .bool false, .int .i64 0, .int .i64 0, .bool false, .int .i64 0, .int .i64 0, .int .i64 0, .int .i64 0, .int .i64 0, .int .i64 0, .int .i64 0, .int .i64 0, .int .i64 0, .int .i64 0, .bool false, .int .i64 0] (wA x) 66).1, (HJ.out.newrow #[.int .i64 0, .int .i64 0, .int .i64 0, .int .i64 0, .int .i64 0, .int .i64 0, .int .i64 0, .int .i64 0, .int .i64 0, .int .i64 0, .bool false, .int .i64 0, .int .i64 0, .bool false, .int .i64 0, .int .i64 0, .int .i64 0, .int .i64 0, .int .i64 0, .int .i64 0, .int .i64 0, .int .i64 0, .int .i64 0, .int .i64 0, .bool false, .int .i64 0] (wA x) 66).2, blk_lt HJ.out.r, own_ne HJ.out.len HJ.out.kw HW0.out HWL.out⟩); clear hcb hce hlb hle hlr HJ)))
 refine gen_world' (fun W => Rx B w W b A0 c0 (some ⟨g, 0, none⟩) c nw e w2.heap.size (wA x)) (by exact HX.out) fun W3 H3 => ?_
 have HX := Aside0.mk H3
 clear H3 p0 q0
 have hcb := fun i => blk_cell HX.out.rh.b_ i
 have hce := fun i => blk_cell HX.out.rh.e_ i
 have hlb := blk_lt HX.out.rh.b_
 have hle := blk_lt HX.out.rh.e_
 have hlr := blk_lt HX.out.rh.r
 have hcx := fun i => (show World.cell? _ ⟨w2.heap.size, i, none⟩ = (#[.int .i64 x.f0.f0, .int .i64 x.f0.f1, .int .i64 x.f0.f2, .int .i64 x.f0.f3.f0, .int .i64 x.f0.f3.f1, .int .i64 x.f0.f4.f0, .int .i64 x.f0.f4.f1, .int .i64 x.f0.f5, .int .i64 x.f0.f6, .int .i64 x.f0.f7, .bool x.f0.f8, .int .i64 x.f0.f9, .int .i64 x.f1, .bool x.f2, .int .i64 x.f3.f0, .int .i64 x.f3.f1, .int .i64 x.f3.f2, .int .i64 x.f3.f3.f0, .int .i64 x.f3.f3.f1, .int .i64 x.f3.f4.f0, .int .i64 x.f3.f4.f1, .int .i64 x.f3.f5, .int .i64 x.f3.f6, .int .i64 x.f3.f7, .bool x.f3.f8, .int .i64 x.f3.f9] : Array Value)[i]? from blk_cell HX.out.x_ i)
 have hlx := blk_lt HX.out.x_
 go_wp2_with (first | ((with_reducible refine gate_store (t := 46) (p := 4) rfl ?_); go_loud (refine wpList_store_row rfl 46 _ _ rfl (w.heap.size + 1 + 1) #[.int .i64 b.m.clk, .slice A0 b.m.L.length c0, .slice (some ⟨g, 0, none⟩) nw c] rfl rfl 46 _ HX.out.rh.r (by kernel_rfl) rfl (by simp [Value.oneCell']) ?_; have HFIN := Aside0.mk (HX.out.rh.fin #[.int .i64 b.m.clk, .slice A0 b.m.L.length c0, .slice (some ⟨g, 0, none⟩) nw c] HX.out.rh.kr HX.out.rh.kw))))
 obtain ⟨hr9, hk9, hw9, hb9⟩ := HFIN.out
 unfold RhPost
 rw [HF.out]
 refine bodyPost_ret (v := .tuple #[.agg #[.int .i64 b.m.clk, .slice A0 b.m.L.length c0, .slice (some ⟨g, 0, none⟩) nw c], .int .i64 6]) ?_ rfl ⟨A0, c0, some ⟨g, 0, none⟩, c, rfl, hk9, hw9, hb9, HLEN.out⟩
 have hrow := run_loadVar_row (P := Try.prog) _ (w.heap.size + 1 + 1) 46 46 _ (0, 0) _ hr9 hu0 rfl (by kernel_rfl)
 simp [results, Try.results28, asAddr, hrow]
theorem rhear_back_new {w : World} {B : Nat} (b : Rb) (A0 : Option Addr) (c0 : Nat) (A : Option Addr) (c nw : Nat) (e : Au.Ev) (hn : b.m.L.length ≤ 90000) (nd : (b.m.L.map S127.h).Nodup) (hB : B ≤ w.heap.size) (hkr : KR w B (.slice A0 b.m.L.length c0) b.m.L) (hkw : KW w B (.slice A nw c) b.W) (hlen : b.W.length = nw) (hnw : nw ≤ 64) (hr : rightJ e = true) (hwl : e.wk < (nw : Int)) (hk : e.k = 5) (ho : (rd_T66 b.W e.wk).f0.f2 = e.op) (h4 : e.op ≤ 4) (hp : (rd_T66 b.W e.wk).f2 = true) (hq : ((rd_T66 b.W e.wk).f3.f4.f0 == e.nn && (rd_T66 b.W e.wk).f3.f4.f1 == e.ng) = false) :
  Calls Try.prog 28 #[.agg #[.int .i64 b.m.clk, .slice A0 b.m.L.length c0, .slice A nw c], .agg (evA e)] w (RhPost B w nw (rhearF b e)) := by
 have hu0 := Try.underlying46
 have hu1 := Try.underlying36
 have hu2 := Try.underlying50
 have hu3 := Try.underlying66
 have hu4 := Try.underlying43
 have hu5 := Try.underlying44
 have HF := Aside0.mk (show rhearF b e = (b, 6) by unfold rhearF; rw [if_neg (by rw [hr, hlen]; simp; omega), if_neg (show ¬ e.k = 1 by omega), if_neg (show ¬ e.k = 2 by omega), if_neg (show ¬ e.k = 3 by omega), if_neg (show ¬ e.k = 4 by omega)]; rw [if_neg (by unfold rans; simp only [Bool.and_eq_true, Bool.or_eq_true, beq_iff_eq, Bool.not_eq_true', decide_eq_false_iff_not]; simp_all)])
 have h0 := right_wk hr
 have HW0 := Aside0.mk h0
 obtain ⟨g, rfl, _, _⟩ := work_at hlen hkw h0 hwl
 obtain ⟨x, hx⟩ : ∃ x, rd_T66 b.W e.wk = x := ⟨_, rfl⟩
 have HXX := Aside0.mk hx
 have p0 : (0 ≤ e.wk) = True := eq_true h0
 have q0 : (e.wk < (nw : Int)) = True := eq_true hwl
 have d0 : decide (e.wk ≥ (nw : Int)) = false := decide_eq_false (by omega)
 have HWL := Aside0.mk hwl
 have qk1 : (e.k == 1) = false := beq_eq_false_iff_ne.2 (by omega)
 have qk2 : (e.k == 2) = false := beq_eq_false_iff_ne.2 (by omega)
 have qk3 : (e.k == 3) = false := beq_eq_false_iff_ne.2 (by omega)
 have qk4 : (e.k == 4) = false := beq_eq_false_iff_ne.2 (by omega)
 rw [hx] at ho hp hq
 have o0 : (x.f0.f2 == e.op) = true := beq_iff_eq.2 (ho)
 have l4 : decide (e.op ≤ 4) = true := decide_eq_true (h4)
 have zhp := hp
 have zhq := hq
 have CR := Aside0.mk (fun W => rright_run e W)
 rw [hr] at CR
 have HN := Aside0.mk hn
 have HND := Aside0.mk nd
 have HB := Aside0.mk hB
 have HNW := Aside0.mk hnw
 have HLEN := Aside0.mk hlen
 have HRT := Aside0.mk hr
 have HJ := Aside0.mk (Rh.start hkr hkw hlen e)
 clear hn nd hB hkr hkw hlen hnw hr hwl hk ho h4 hp hq
 have hcb := fun i => blk_cell HJ.out.b_ i
 have hce := fun i => blk_cell HJ.out.e_ i
 have hlb := blk_lt HJ.out.b_
 have hle := blk_lt HJ.out.e_
 have hlr := blk_lt HJ.out.r
 go_enter Try.func28, Try.ntmps28
 clear hx h0
 go_upto_region 8 with (first | (go_at_call 62; (with_reducible refine (CR.out _).mono ?_); rintro r w2 ⟨rfl, hb⟩; have HJ2 := Aside0.mk (HJ.out.step hb); clear hcb hce hlb hle hlr HJ; have HJ := HJ2; clear HJ2; have hcb := fun i => blk_cell HJ.out.b_ i; have hce := fun i => blk_cell HJ.out.e_ i; have hlb := blk_lt HJ.out.b_; have hle := blk_lt HJ.out.e_; have hlr := blk_lt HJ.out.r; clear hb) | ((with_reducible refine Go.Proofs.Ythniclbmpeklmaa.Ev.gate_load (t := 66) (p := 43) rfl ?_); go_loud (refine wpList_load_at rfl 66 _ rfl g (e.wk.toNat * 26) ?hx (wA x) _ ?hc hu3 rfl (wA_info x) ?_; (case hx => rfl); (case hc => obtain ⟨g2, q, _, q2⟩ := work_at HJ.out.len HJ.out.kw HW0.out HWL.out; rw [HXX.out] at q2; obtain rfl : g = g2 := (by injection q with q; injection q); exact q2))) | ((with_reducible refine gate_store (t := 66) (p := 8) rfl ?_); go_loud (refine wpList_store_row rfl 66 _ _ rfl (w2.heap.size) (wA x) rfl rfl 66 _ (blk_new w2 (.cells #[.int .i64 0, .int .i64 0, .int .i64 0, .int .i64 0, .int .i64 0, .int .i64 0, .int .i64 0, .int .i64 0, .int .i64 0, .int .i64 0, .bool false, .int .i64 0, .int .i64 0, .bool false, .int .i64 0, .int .i64 0, .int .i64 0, .int .i64 0, .int .i64 0, .int .i64 0, .int .i64 0, .int .i64 0, .int .i64 0, .int .i64 0, .bool false, .int .i64 0] 66)) (wA_info x) rfl (wA_one x) ?_; have HX := Aside0.mk (show Rx B w _ b A0 c0 (some ⟨g, 0, none⟩) c nw e w2.heap.size (wA x) from ⟨(HJ.out.newrow #[.int .i64 0, .int .i64 0, .int .i64 0, .int .i64 0, .int .i64 0, .int .i64 0, .int .i64 0, .int .i64 0, .int .i64 0, .int .i64 0, .bool false, .int .i64 0, .int .i64 0, .bool false, .int .i64 0, .int .i64 0, .int .i64 0, .int .i64 0, .int .i64 0, .int .i64 0, .int .i64 0, .int .i64 0, .int .i64 0, .int .i64 0, .bool false, .int .i64 0] (wA x) 66).1, (HJ.out.newrow #[.int .i64 0, .int .i64 0, .int .i64 0, .int .i64 0, .int .i64 0, .int .i64 0, .int .i64 0, .int .i64 0, .int .i64 0, .int .i64 0, .bool false, .int .i64 0, .int .i64 0, .bool false, .int .i64 0, .int .i64 0, .int .i64 0, .int .i64 0, .int .i64 0, .int .i64 0, .int .i64 0, .int .i64 0, .int .i64 0, .int .i64 0, .bool false, .int .i64 0] (wA x) 66).2, blk_lt HJ.out.r, own_ne HJ.out.len HJ.out.kw HW0.out HWL.out⟩); clear hcb hce hlb hle hlr HJ)))
 refine gen_world' (fun W => Rx B w W b A0 c0 (some ⟨g, 0, none⟩) c nw e w2.heap.size (wA x)) (by exact HX.out) fun W3 H3 => ?_
 have HX := Aside0.mk H3
 clear H3 p0 q0
 have hcb := fun i => blk_cell HX.out.rh.b_ i
 have hce := fun i => blk_cell HX.out.rh.e_ i
 have hlb := blk_lt HX.out.rh.b_
 have hle := blk_lt HX.out.rh.e_
 have hlr := blk_lt HX.out.rh.r
 have hcx := fun i => (show World.cell? _ ⟨w2.heap.size, i, none⟩ = (#[.int .i64 x.f0.f0, .int .i64 x.f0.f1, .int .i64 x.f0.f2, .int .i64 x.f0.f3.f0, .int .i64 x.f0.f3.f1, .int .i64 x.f0.f4.f0, .int .i64 x.f0.f4.f1, .int .i64 x.f0.f5, .int .i64 x.f0.f6, .int .i64 x.f0.f7, .bool x.f0.f8, .int .i64 x.f0.f9, .int .i64 x.f1, .bool x.f2, .int .i64 x.f3.f0, .int .i64 x.f3.f1, .int .i64 x.f3.f2, .int .i64 x.f3.f3.f0, .int .i64 x.f3.f3.f1, .int .i64 x.f3.f4.f0, .int .i64 x.f3.f4.f1, .int .i64 x.f3.f5, .int .i64 x.f3.f6, .int .i64 x.f3.f7, .bool x.f3.f8, .int .i64 x.f3.f9] : Array Value)[i]? from blk_cell HX.out.x_ i)
 have hlx := blk_lt HX.out.x_
 go_wp2_with (first | ((with_reducible refine gate_store (t := 46) (p := 4) rfl ?_); go_loud (refine wpList_store_row rfl 46 _ _ rfl (w.heap.size + 1 + 1) #[.int .i64 b.m.clk, .slice A0 b.m.L.length c0, .slice (some ⟨g, 0, none⟩) nw c] rfl rfl 46 _ HX.out.rh.r (by kernel_rfl) rfl (by simp [Value.oneCell']) ?_; have HFIN := Aside0.mk (HX.out.rh.fin #[.int .i64 b.m.clk, .slice A0 b.m.L.length c0, .slice (some ⟨g, 0, none⟩) nw c] HX.out.rh.kr HX.out.rh.kw))))
 obtain ⟨hr9, hk9, hw9, hb9⟩ := HFIN.out
 unfold RhPost
 rw [HF.out]
 refine bodyPost_ret (v := .tuple #[.agg #[.int .i64 b.m.clk, .slice A0 b.m.L.length c0, .slice (some ⟨g, 0, none⟩) nw c], .int .i64 6]) ?_ rfl ⟨A0, c0, some ⟨g, 0, none⟩, c, rfl, hk9, hw9, hb9, HLEN.out⟩
 have hrow := run_loadVar_row (P := Try.prog) _ (w.heap.size + 1 + 1) 46 46 _ (0, 0) _ hr9 hu0 rfl (by kernel_rfl)
 simp [results, Try.results28, asAddr, hrow]
theorem rhear_back_yes {w : World} {B : Nat} (b : Rb) (A0 : Option Addr) (c0 : Nat) (A : Option Addr) (c nw : Nat) (e : Au.Ev) (hn : b.m.L.length ≤ 90000) (nd : (b.m.L.map S127.h).Nodup) (hB : B ≤ w.heap.size) (hkr : KR w B (.slice A0 b.m.L.length c0) b.m.L) (hkw : KW w B (.slice A nw c) b.W) (hlen : b.W.length = nw) (hnw : nw ≤ 64) (hr : rightJ e = true) (hwl : e.wk < (nw : Int)) (hk : e.k = 5) (ho : (rd_T66 b.W e.wk).f0.f2 = e.op) (h4 : e.op ≤ 4) (hp : (rd_T66 b.W e.wk).f2 = true) (hq : ((rd_T66 b.W e.wk).f3.f4.f0 == e.nn && (rd_T66 b.W e.wk).f3.f4.f1 == e.ng) = true) (hy : ((rd_T66 b.W e.wk).f3.f8 == e.y) = false) :
  Calls Try.prog 28 #[.agg #[.int .i64 b.m.clk, .slice A0 b.m.L.length c0, .slice A nw c], .agg (evA e)] w (RhPost B w nw (rhearF b e)) := by
 have hu0 := Try.underlying46
 have hu1 := Try.underlying36
 have hu2 := Try.underlying50
 have hu3 := Try.underlying66
 have hu4 := Try.underlying43
 have hu5 := Try.underlying44
 have HF := Aside0.mk (show rhearF b e = (b, 6) by unfold rhearF; rw [if_neg (by rw [hr, hlen]; simp; omega), if_neg (show ¬ e.k = 1 by omega), if_neg (show ¬ e.k = 2 by omega), if_neg (show ¬ e.k = 3 by omega), if_neg (show ¬ e.k = 4 by omega)]; rw [if_neg (by unfold rans; simp only [Bool.and_eq_true, Bool.or_eq_true, beq_iff_eq, Bool.not_eq_true', decide_eq_false_iff_not]; simp_all)])
 have h0 := right_wk hr
 have HW0 := Aside0.mk h0
 obtain ⟨g, rfl, _, _⟩ := work_at hlen hkw h0 hwl
 obtain ⟨x, hx⟩ : ∃ x, rd_T66 b.W e.wk = x := ⟨_, rfl⟩
 have HXX := Aside0.mk hx
 have p0 : (0 ≤ e.wk) = True := eq_true h0
 have q0 : (e.wk < (nw : Int)) = True := eq_true hwl
 have d0 : decide (e.wk ≥ (nw : Int)) = false := decide_eq_false (by omega)
 have HWL := Aside0.mk hwl
 have qk1 : (e.k == 1) = false := beq_eq_false_iff_ne.2 (by omega)
 have qk2 : (e.k == 2) = false := beq_eq_false_iff_ne.2 (by omega)
 have qk3 : (e.k == 3) = false := beq_eq_false_iff_ne.2 (by omega)
 have qk4 : (e.k == 4) = false := beq_eq_false_iff_ne.2 (by omega)
 rw [hx] at ho hp hq hy
 have o0 : (x.f0.f2 == e.op) = true := beq_iff_eq.2 (ho)
 have l4 : decide (e.op ≤ 4) = true := decide_eq_true (h4)
 have zhp := hp
 have zhq := hq
 have zhy := hy
 have CR := Aside0.mk (fun W => rright_run e W)
 rw [hr] at CR
 have HN := Aside0.mk hn
 have HND := Aside0.mk nd
 have HB := Aside0.mk hB
 have HNW := Aside0.mk hnw
 have HLEN := Aside0.mk hlen
 have HRT := Aside0.mk hr
 have HJ := Aside0.mk (Rh.start hkr hkw hlen e)
 clear hn nd hB hkr hkw hlen hnw hr hwl hk ho h4 hp hq hy
 have hcb := fun i => blk_cell HJ.out.b_ i
 have hce := fun i => blk_cell HJ.out.e_ i
 have hlb := blk_lt HJ.out.b_
 have hle := blk_lt HJ.out.e_
 have hlr := blk_lt HJ.out.r
 go_enter Try.func28, Try.ntmps28
 clear hx h0
 go_upto_region 8 with (first | (go_at_call 62; (with_reducible refine (CR.out _).mono ?_); rintro r w2 ⟨rfl, hb⟩; have HJ2 := Aside0.mk (HJ.out.step hb); clear hcb hce hlb hle hlr HJ; have HJ := HJ2; clear HJ2; have hcb := fun i => blk_cell HJ.out.b_ i; have hce := fun i => blk_cell HJ.out.e_ i; have hlb := blk_lt HJ.out.b_; have hle := blk_lt HJ.out.e_; have hlr := blk_lt HJ.out.r; clear hb) | ((with_reducible refine Go.Proofs.Ythniclbmpeklmaa.Ev.gate_load (t := 66) (p := 43) rfl ?_); go_loud (refine wpList_load_at rfl 66 _ rfl g (e.wk.toNat * 26) ?hx (wA x) _ ?hc hu3 rfl (wA_info x) ?_; (case hx => rfl); (case hc => obtain ⟨g2, q, _, q2⟩ := work_at HJ.out.len HJ.out.kw HW0.out HWL.out; rw [HXX.out] at q2; obtain rfl : g = g2 := (by injection q with q; injection q); exact q2))) | ((with_reducible refine gate_store (t := 66) (p := 8) rfl ?_); go_loud (refine wpList_store_row rfl 66 _ _ rfl (w2.heap.size) (wA x) rfl rfl 66 _ (blk_new w2 (.cells #[.int .i64 0, .int .i64 0, .int .i64 0, .int .i64 0, .int .i64 0, .int .i64 0, .int .i64 0, .int .i64 0, .int .i64 0, .int .i64 0, .bool false, .int .i64 0, .int .i64 0, .bool false, .int .i64 0, .int .i64 0, .int .i64 0, .int .i64 0, .int .i64 0, .int .i64 0, .int .i64 0, .int .i64 0, .int .i64 0, .int .i64 0, .bool false, .int .i64 0] 66)) (wA_info x) rfl (wA_one x) ?_; have HX := Aside0.mk (show Rx B w _ b A0 c0 (some ⟨g, 0, none⟩) c nw e w2.heap.size (wA x) from ⟨(HJ.out.newrow #[.int .i64 0, .int .i64 0, .int .i64 0, .int .i64 0, .int .i64 0, .int .i64 0, .int .i64 0, .int .i64 0, .int .i64 0, .int .i64 0, .bool false, .int .i64 0, .int .i64 0, .bool false, .int .i64 0, .int .i64 0, .int .i64 0, .int .i64 0, .int .i64 0, .int .i64 0, .int .i64 0, .int .i64 0, .int .i64 0, .int .i64 0, .bool false, .int .i64 0] (wA x) 66).1, (HJ.out.newrow #[.int .i64 0, .int .i64 0, .int .i64 0, .int .i64 0, .int .i64 0, .int .i64 0, .int .i64 0, .int .i64 0, .int .i64 0, .int .i64 0, .bool false, .int .i64 0, .int .i64 0, .bool false, .int .i64 0, .int .i64 0, .int .i64 0, .int .i64 0, .int .i64 0, .int .i64 0, .int .i64 0, .int .i64 0, .int .i64 0, .int .i64 0, .bool false, .int .i64 0] (wA x) 66).2, blk_lt HJ.out.r, own_ne HJ.out.len HJ.out.kw HW0.out HWL.out⟩); clear hcb hce hlb hle hlr HJ)))
 refine gen_world' (fun W => Rx B w W b A0 c0 (some ⟨g, 0, none⟩) c nw e w2.heap.size (wA x)) (by exact HX.out) fun W3 H3 => ?_
 have HX := Aside0.mk H3
 clear H3 p0 q0
 have hcb := fun i => blk_cell HX.out.rh.b_ i
 have hce := fun i => blk_cell HX.out.rh.e_ i
 have hlb := blk_lt HX.out.rh.b_
 have hle := blk_lt HX.out.rh.e_
 have hlr := blk_lt HX.out.rh.r
 have hcx := fun i => (show World.cell? _ ⟨w2.heap.size, i, none⟩ = (#[.int .i64 x.f0.f0, .int .i64 x.f0.f1, .int .i64 x.f0.f2, .int .i64 x.f0.f3.f0, .int .i64 x.f0.f3.f1, .int .i64 x.f0.f4.f0, .int .i64 x.f0.f4.f1, .int .i64 x.f0.f5, .int .i64 x.f0.f6, .int .i64 x.f0.f7, .bool x.f0.f8, .int .i64 x.f0.f9, .int .i64 x.f1, .bool x.f2, .int .i64 x.f3.f0, .int .i64 x.f3.f1, .int .i64 x.f3.f2, .int .i64 x.f3.f3.f0, .int .i64 x.f3.f3.f1, .int .i64 x.f3.f4.f0, .int .i64 x.f3.f4.f1, .int .i64 x.f3.f5, .int .i64 x.f3.f6, .int .i64 x.f3.f7, .bool x.f3.f8, .int .i64 x.f3.f9] : Array Value)[i]? from blk_cell HX.out.x_ i)
 have hlx := blk_lt HX.out.x_
 go_wp2_with (first | ((with_reducible refine gate_store (t := 46) (p := 4) rfl ?_); go_loud (refine wpList_store_row rfl 46 _ _ rfl (w.heap.size + 1 + 1) #[.int .i64 b.m.clk, .slice A0 b.m.L.length c0, .slice (some ⟨g, 0, none⟩) nw c] rfl rfl 46 _ HX.out.rh.r (by kernel_rfl) rfl (by simp [Value.oneCell']) ?_; have HFIN := Aside0.mk (HX.out.rh.fin #[.int .i64 b.m.clk, .slice A0 b.m.L.length c0, .slice (some ⟨g, 0, none⟩) nw c] HX.out.rh.kr HX.out.rh.kw))))
 obtain ⟨hr9, hk9, hw9, hb9⟩ := HFIN.out
 unfold RhPost
 rw [HF.out]
 refine bodyPost_ret (v := .tuple #[.agg #[.int .i64 b.m.clk, .slice A0 b.m.L.length c0, .slice (some ⟨g, 0, none⟩) nw c], .int .i64 6]) ?_ rfl ⟨A0, c0, some ⟨g, 0, none⟩, c, rfl, hk9, hw9, hb9, HLEN.out⟩
 have hrow := run_loadVar_row (P := Try.prog) _ (w.heap.size + 1 + 1) 46 46 _ (0, 0) _ hr9 hu0 rfl (by kernel_rfl)
 simp [results, Try.results28, asAddr, hrow]
theorem rhear_back_err {w : World} {B : Nat} (b : Rb) (A0 : Option Addr) (c0 : Nat) (A : Option Addr) (c nw : Nat) (e : Au.Ev) (hn : b.m.L.length ≤ 90000) (nd : (b.m.L.map S127.h).Nodup) (hB : B ≤ w.heap.size) (hkr : KR w B (.slice A0 b.m.L.length c0) b.m.L) (hkw : KW w B (.slice A nw c) b.W) (hlen : b.W.length = nw) (hnw : nw ≤ 64) (hr : rightJ e = true) (hwl : e.wk < (nw : Int)) (hk : e.k = 5) (ho : (rd_T66 b.W e.wk).f0.f2 = e.op) (h4 : e.op ≤ 4) (hp : (rd_T66 b.W e.wk).f2 = true) (hq : ((rd_T66 b.W e.wk).f3.f4.f0 == e.nn && (rd_T66 b.W e.wk).f3.f4.f1 == e.ng) = true) (hy : ((rd_T66 b.W e.wk).f3.f8 == e.y) = true) (hz : ((rd_T66 b.W e.wk).f3.f9 == e.er) = false) :
  Calls Try.prog 28 #[.agg #[.int .i64 b.m.clk, .slice A0 b.m.L.length c0, .slice A nw c], .agg (evA e)] w (RhPost B w nw (rhearF b e)) := by
 have hu0 := Try.underlying46
 have hu1 := Try.underlying36
 have hu2 := Try.underlying50
 have hu3 := Try.underlying66
 have hu4 := Try.underlying43
 have hu5 := Try.underlying44
 have HF := Aside0.mk (show rhearF b e = (b, 6) by unfold rhearF; rw [if_neg (by rw [hr, hlen]; simp; omega), if_neg (show ¬ e.k = 1 by omega), if_neg (show ¬ e.k = 2 by omega), if_neg (show ¬ e.k = 3 by omega), if_neg (show ¬ e.k = 4 by omega)]; rw [if_neg (by unfold rans; simp only [Bool.and_eq_true, Bool.or_eq_true, beq_iff_eq, Bool.not_eq_true', decide_eq_false_iff_not]; simp_all)])
 have h0 := right_wk hr
 have HW0 := Aside0.mk h0
 obtain ⟨g, rfl, _, _⟩ := work_at hlen hkw h0 hwl
 obtain ⟨x, hx⟩ : ∃ x, rd_T66 b.W e.wk = x := ⟨_, rfl⟩
 have HXX := Aside0.mk hx
 have p0 : (0 ≤ e.wk) = True := eq_true h0
 have q0 : (e.wk < (nw : Int)) = True := eq_true hwl
 have d0 : decide (e.wk ≥ (nw : Int)) = false := decide_eq_false (by omega)
 have HWL := Aside0.mk hwl
 have qk1 : (e.k == 1) = false := beq_eq_false_iff_ne.2 (by omega)
 have qk2 : (e.k == 2) = false := beq_eq_false_iff_ne.2 (by omega)
 have qk3 : (e.k == 3) = false := beq_eq_false_iff_ne.2 (by omega)
 have qk4 : (e.k == 4) = false := beq_eq_false_iff_ne.2 (by omega)
 rw [hx] at ho hp hq hy hz
 have o0 : (x.f0.f2 == e.op) = true := beq_iff_eq.2 (ho)
 have l4 : decide (e.op ≤ 4) = true := decide_eq_true (h4)
 have zhp := hp
 have zhq := hq
 have zhy := hy
 have zhz := hz
 have CR := Aside0.mk (fun W => rright_run e W)
 rw [hr] at CR
 have HN := Aside0.mk hn
 have HND := Aside0.mk nd
 have HB := Aside0.mk hB
 have HNW := Aside0.mk hnw
 have HLEN := Aside0.mk hlen
 have HRT := Aside0.mk hr
 have HJ := Aside0.mk (Rh.start hkr hkw hlen e)
 clear hn nd hB hkr hkw hlen hnw hr hwl hk ho h4 hp hq hy hz
 have hcb := fun i => blk_cell HJ.out.b_ i
 have hce := fun i => blk_cell HJ.out.e_ i
 have hlb := blk_lt HJ.out.b_
 have hle := blk_lt HJ.out.e_
 have hlr := blk_lt HJ.out.r
 go_enter Try.func28, Try.ntmps28
 clear hx h0
 go_upto_region 8 with (first | (go_at_call 62; (with_reducible refine (CR.out _).mono ?_); rintro r w2 ⟨rfl, hb⟩; have HJ2 := Aside0.mk (HJ.out.step hb); clear hcb hce hlb hle hlr HJ; have HJ := HJ2; clear HJ2; have hcb := fun i => blk_cell HJ.out.b_ i; have hce := fun i => blk_cell HJ.out.e_ i; have hlb := blk_lt HJ.out.b_; have hle := blk_lt HJ.out.e_; have hlr := blk_lt HJ.out.r; clear hb) | ((with_reducible refine Go.Proofs.Ythniclbmpeklmaa.Ev.gate_load (t := 66) (p := 43) rfl ?_); go_loud (refine wpList_load_at rfl 66 _ rfl g (e.wk.toNat * 26) ?hx (wA x) _ ?hc hu3 rfl (wA_info x) ?_; (case hx => rfl); (case hc => obtain ⟨g2, q, _, q2⟩ := work_at HJ.out.len HJ.out.kw HW0.out HWL.out; rw [HXX.out] at q2; obtain rfl : g = g2 := (by injection q with q; injection q); exact q2))) | ((with_reducible refine gate_store (t := 66) (p := 8) rfl ?_); go_loud (refine wpList_store_row rfl 66 _ _ rfl (w2.heap.size) (wA x) rfl rfl 66 _ (blk_new w2 (.cells #[.int .i64 0, .int .i64 0, .int .i64 0, .int .i64 0, .int .i64 0, .int .i64 0, .int .i64 0, .int .i64 0, .int .i64 0, .int .i64 0, .bool false, .int .i64 0, .int .i64 0, .bool false, .int .i64 0, .int .i64 0, .int .i64 0, .int .i64 0, .int .i64 0, .int .i64 0, .int .i64 0, .int .i64 0, .int .i64 0, .int .i64 0, .bool false, .int .i64 0] 66)) (wA_info x) rfl (wA_one x) ?_; have HX := Aside0.mk (show Rx B w _ b A0 c0 (some ⟨g, 0, none⟩) c nw e w2.heap.size (wA x) from ⟨(HJ.out.newrow #[.int .i64 0, .int .i64 0, .int .i64 0, .int .i64 0, .int .i64 0, .int .i64 0, .int .i64 0, .int .i64 0, .int .i64 0, .int .i64 0, .bool false, .int .i64 0, .int .i64 0, .bool false, .int .i64 0, .int .i64 0, .int .i64 0, .int .i64 0, .int .i64 0, .int .i64 0, .int .i64 0, .int .i64 0, .int .i64 0, .int .i64 0, .bool false, .int .i64 0] (wA x) 66).1, (HJ.out.newrow #[.int .i64 0, .int .i64 0, .int .i64 0, .int .i64 0, .int .i64 0, .int .i64 0, .int .i64 0, .int .i64 0, .int .i64 0, .int .i64 0, .bool false, .int .i64 0, .int .i64 0, .bool false, .int .i64 0, .int .i64 0, .int .i64 0, .int .i64 0, .int .i64 0, .int .i64 0, .int .i64 0, .int .i64 0, .int .i64 0, .int .i64 0, .bool false, .int .i64 0] (wA x) 66).2, blk_lt HJ.out.r, own_ne HJ.out.len HJ.out.kw HW0.out HWL.out⟩); clear hcb hce hlb hle hlr HJ)))
 refine gen_world' (fun W => Rx B w W b A0 c0 (some ⟨g, 0, none⟩) c nw e w2.heap.size (wA x)) (by exact HX.out) fun W3 H3 => ?_
 have HX := Aside0.mk H3
 clear H3 p0 q0
 have hcb := fun i => blk_cell HX.out.rh.b_ i
 have hce := fun i => blk_cell HX.out.rh.e_ i
 have hlb := blk_lt HX.out.rh.b_
 have hle := blk_lt HX.out.rh.e_
 have hlr := blk_lt HX.out.rh.r
 have hcx := fun i => (show World.cell? _ ⟨w2.heap.size, i, none⟩ = (#[.int .i64 x.f0.f0, .int .i64 x.f0.f1, .int .i64 x.f0.f2, .int .i64 x.f0.f3.f0, .int .i64 x.f0.f3.f1, .int .i64 x.f0.f4.f0, .int .i64 x.f0.f4.f1, .int .i64 x.f0.f5, .int .i64 x.f0.f6, .int .i64 x.f0.f7, .bool x.f0.f8, .int .i64 x.f0.f9, .int .i64 x.f1, .bool x.f2, .int .i64 x.f3.f0, .int .i64 x.f3.f1, .int .i64 x.f3.f2, .int .i64 x.f3.f3.f0, .int .i64 x.f3.f3.f1, .int .i64 x.f3.f4.f0, .int .i64 x.f3.f4.f1, .int .i64 x.f3.f5, .int .i64 x.f3.f6, .int .i64 x.f3.f7, .bool x.f3.f8, .int .i64 x.f3.f9] : Array Value)[i]? from blk_cell HX.out.x_ i)
 have hlx := blk_lt HX.out.x_
 go_wp2_with (first | ((with_reducible refine gate_store (t := 46) (p := 4) rfl ?_); go_loud (refine wpList_store_row rfl 46 _ _ rfl (w.heap.size + 1 + 1) #[.int .i64 b.m.clk, .slice A0 b.m.L.length c0, .slice (some ⟨g, 0, none⟩) nw c] rfl rfl 46 _ HX.out.rh.r (by kernel_rfl) rfl (by simp [Value.oneCell']) ?_; have HFIN := Aside0.mk (HX.out.rh.fin #[.int .i64 b.m.clk, .slice A0 b.m.L.length c0, .slice (some ⟨g, 0, none⟩) nw c] HX.out.rh.kr HX.out.rh.kw))))
 obtain ⟨hr9, hk9, hw9, hb9⟩ := HFIN.out
 unfold RhPost
 rw [HF.out]
 refine bodyPost_ret (v := .tuple #[.agg #[.int .i64 b.m.clk, .slice A0 b.m.L.length c0, .slice (some ⟨g, 0, none⟩) nw c], .int .i64 6]) ?_ rfl ⟨A0, c0, some ⟨g, 0, none⟩, c, rfl, hk9, hw9, hb9, HLEN.out⟩
 have hrow := run_loadVar_row (P := Try.prog) _ (w.heap.size + 1 + 1) 46 46 _ (0, 0) _ hr9 hu0 rfl (by kernel_rfl)
 simp [results, Try.results28, asAddr, hrow]
theorem rhear_invoke {w : World} {B : Nat} (b : Rb) (A0 : Option Addr) (c0 : Nat) (A : Option Addr) (c nw : Nat) (e : Au.Ev) (hn : b.m.L.length ≤ 90000) (nd : (b.m.L.map S127.h).Nodup) (hB : B ≤ w.heap.size) (hkr : KR w B (.slice A0 b.m.L.length c0) b.m.L) (hkw : KW w B (.slice A nw c) b.W) (hlen : b.W.length = nw) (hnw : nw ≤ 64) (hr : rightJ e = true) (hwl : e.wk < (nw : Int)) (hk : e.k = 2) (hi : (rd_T66 b.W e.wk).f0.f2 = 0) :
  Calls Try.prog 28 #[.agg #[.int .i64 b.m.clk, .slice A0 b.m.L.length c0, .slice A nw c], .agg (evA e)] w (RhPost B w nw (rhearF b e)) := by
 have hu0 := Try.underlying46
 have hu1 := Try.underlying36
 have hu2 := Try.underlying50
 have hu3 := Try.underlying66
 have hu4 := Try.underlying43
 have hu5 := Try.underlying44
 have HF := Aside0.mk (show rhearF b e = (⟨b.m, b.W.set e.wk.toNat ⟨ofE e, b.m.clk, false, z50⟩⟩, 0) by unfold rhearF; rw [if_neg (by rw [hr, hlen]; simp; omega), if_neg (show ¬ e.k = 1 by omega), if_pos hk]; rw [if_pos hi])
 have h0 := right_wk hr
 have HW0 := Aside0.mk h0
 obtain ⟨g, rfl, _, _⟩ := work_at hlen hkw h0 hwl
 obtain ⟨x, hx⟩ : ∃ x, rd_T66 b.W e.wk = x := ⟨_, rfl⟩
 have HXX := Aside0.mk hx
 have p0 : (0 ≤ e.wk) = True := eq_true h0
 have q0 : (e.wk < (nw : Int)) = True := eq_true hwl
 have d0 : decide (e.wk ≥ (nw : Int)) = false := decide_eq_false (by omega)
 have HWL := Aside0.mk hwl
 have qk1 : (e.k == 1) = false := beq_eq_false_iff_ne.2 (by omega)
 have qk2 : (e.k == 2) = true := beq_iff_eq.2 hk
 have qk3 : (e.k == 3) = false := beq_eq_false_iff_ne.2 (by omega)
 have qk4 : (e.k == 4) = false := beq_eq_false_iff_ne.2 (by omega)
 rw [hx] at hi
 have i0 : (x.f0.f2 == 0) = true := beq_iff_eq.2 (hi)
 have CW : Aside0 (∀ W, Rh B w W b A0 c0 (some ⟨g, 0, none⟩) c nw e → Calls Try.prog 63 #[.agg #[.int .i64 b.m.clk, .slice A0 b.m.L.length c0, .slice (some ⟨g, 0, none⟩) nw c], .int .i64 e.wk, .agg #[.int .i64 e.k, .int .i64 e.wk, .int .i64 e.op, .int .i64 e.hn, .int .i64 e.hg, .int .i64 e.nn, .int .i64 e.ng, .int .i64 e.t, .int .i64 e.a, .int .i64 e.u, .bool e.y, .int .i64 e.er, .int .i64 b.m.clk, .bool false, .int .i64 0, .int .i64 0, .int .i64 0, .int .i64 0, .int .i64 0, .int .i64 0, .int .i64 0, .int .i64 0, .int .i64 0, .int .i64 0, .bool false, .int .i64 0]] W fun r w' => ∃ A2 c2, r = .returned (.agg #[.int .i64 b.m.clk, .slice A0 b.m.L.length c0, .slice A2 nw c2]) ∧ KW w' B (.slice A2 nw c2) (b.W.set e.wk.toNat ⟨ofE e, b.m.clk, false, z50⟩) ∧ Below W.heap.size W w') := ⟨fun W hW => with_lit b.m.clk A0 _ c0 (some ⟨g, 0, none⟩) c nw b.W hlen e.wk h0 hwl hnw ⟨ofE e, b.m.clk, false, z50⟩ hW.kw (Nat.le_trans hB hW.below.size)⟩
 have CR := Aside0.mk (fun W => rright_run e W)
 rw [hr] at CR
 have HN := Aside0.mk hn
 have HND := Aside0.mk nd
 have HB := Aside0.mk hB
 have HNW := Aside0.mk hnw
 have HLEN := Aside0.mk hlen
 have HRT := Aside0.mk hr
 have HJ := Aside0.mk (Rh.start hkr hkw hlen e)
 clear hn nd hB hkr hkw hlen hnw hr hwl hk hi
 have hcb := fun i => blk_cell HJ.out.b_ i
 have hce := fun i => blk_cell HJ.out.e_ i
 have hlb := blk_lt HJ.out.b_
 have hle := blk_lt HJ.out.e_
 have hlr := blk_lt HJ.out.r
 go_enter Try.func28, Try.ntmps28
 clear hx h0
 go_upto_region 8 with (first | (go_at_call 62; (with_reducible refine (CR.out _).mono ?_); rintro r w2 ⟨rfl, hb⟩; have HJ2 := Aside0.mk (HJ.out.step hb); clear hcb hce hlb hle hlr HJ; have HJ := HJ2; clear HJ2; have hcb := fun i => blk_cell HJ.out.b_ i; have hce := fun i => blk_cell HJ.out.e_ i; have hlb := blk_lt HJ.out.b_; have hle := blk_lt HJ.out.e_; have hlr := blk_lt HJ.out.r; clear hb) | ((with_reducible refine Go.Proofs.Ythniclbmpeklmaa.Ev.gate_load (t := 66) (p := 43) rfl ?_); go_loud (refine wpList_load_at rfl 66 _ rfl g (e.wk.toNat * 26) ?hx (wA x) _ ?hc hu3 rfl (wA_info x) ?_; (case hx => rfl); (case hc => obtain ⟨g2, q, _, q2⟩ := work_at HJ.out.len HJ.out.kw HW0.out HWL.out; rw [HXX.out] at q2; obtain rfl : g = g2 := (by injection q with q; injection q); exact q2))) | ((with_reducible refine gate_store (t := 66) (p := 8) rfl ?_); go_loud (refine wpList_store_row rfl 66 _ _ rfl (w2.heap.size) (wA x) rfl rfl 66 _ (blk_new w2 (.cells #[.int .i64 0, .int .i64 0, .int .i64 0, .int .i64 0, .int .i64 0, .int .i64 0, .int .i64 0, .int .i64 0, .int .i64 0, .int .i64 0, .bool false, .int .i64 0, .int .i64 0, .bool false, .int .i64 0, .int .i64 0, .int .i64 0, .int .i64 0, .int .i64 0, .int .i64 0, .int .i64 0, .int .i64 0, .int .i64 0, .int .i64 0, .bool false, .int .i64 0] 66)) (wA_info x) rfl (wA_one x) ?_; have HX := Aside0.mk (show Rx B w _ b A0 c0 (some ⟨g, 0, none⟩) c nw e w2.heap.size (wA x) from ⟨(HJ.out.newrow #[.int .i64 0, .int .i64 0, .int .i64 0, .int .i64 0, .int .i64 0, .int .i64 0, .int .i64 0, .int .i64 0, .int .i64 0, .int .i64 0, .bool false, .int .i64 0, .int .i64 0, .bool false, .int .i64 0, .int .i64 0, .int .i64 0, .int .i64 0, .int .i64 0, .int .i64 0, .int .i64 0, .int .i64 0, .int .i64 0, .int .i64 0, .bool false, .int .i64 0] (wA x) 66).1, (HJ.out.newrow #[.int .i64 0, .int .i64 0, .int .i64 0, .int .i64 0, .int .i64 0, .int .i64 0, .int .i64 0, .int .i64 0, .int .i64 0, .int .i64 0, .bool false, .int .i64 0, .int .i64 0, .bool false, .int .i64 0, .int .i64 0, .int .i64 0, .int .i64 0, .int .i64 0, .int .i64 0, .int .i64 0, .int .i64 0, .int .i64 0, .int .i64 0, .bool false, .int .i64 0] (wA x) 66).2, blk_lt HJ.out.r, own_ne HJ.out.len HJ.out.kw HW0.out HWL.out⟩); clear hcb hce hlb hle hlr HJ)))
 refine gen_world' (fun W => Rx B w W b A0 c0 (some ⟨g, 0, none⟩) c nw e w2.heap.size (wA x)) (by exact HX.out) fun W3 H3 => ?_
 have HX := Aside0.mk H3
 clear H3 p0 q0
 have hcb := fun i => blk_cell HX.out.rh.b_ i
 have hce := fun i => blk_cell HX.out.rh.e_ i
 have hlb := blk_lt HX.out.rh.b_
 have hle := blk_lt HX.out.rh.e_
 have hlr := blk_lt HX.out.rh.r
 have hcx := fun i => (show World.cell? _ ⟨w2.heap.size, i, none⟩ = (#[.int .i64 x.f0.f0, .int .i64 x.f0.f1, .int .i64 x.f0.f2, .int .i64 x.f0.f3.f0, .int .i64 x.f0.f3.f1, .int .i64 x.f0.f4.f0, .int .i64 x.f0.f4.f1, .int .i64 x.f0.f5, .int .i64 x.f0.f6, .int .i64 x.f0.f7, .bool x.f0.f8, .int .i64 x.f0.f9, .int .i64 x.f1, .bool x.f2, .int .i64 x.f3.f0, .int .i64 x.f3.f1, .int .i64 x.f3.f2, .int .i64 x.f3.f3.f0, .int .i64 x.f3.f3.f1, .int .i64 x.f3.f4.f0, .int .i64 x.f3.f4.f1, .int .i64 x.f3.f5, .int .i64 x.f3.f6, .int .i64 x.f3.f7, .bool x.f3.f8, .int .i64 x.f3.f9] : Array Value)[i]? from blk_cell HX.out.x_ i)
 have hlx := blk_lt HX.out.x_
 go_wp2_with (first | (go_at_call 63; go_loud ((with_reducible refine (CW.out _ HX.out.rh).mono ?_); rintro r w4 ⟨A2, c2, rfl, hk2, hb⟩; have HX2 := Aside0.mk (HX.out.step hb); clear hcb hce hlb hle hlr hcx hlx HX; have HX := HX2; clear HX2; have hcb := fun i => blk_cell HX.out.rh.b_ i; have hce := fun i => blk_cell HX.out.rh.e_ i; have hlb := blk_lt HX.out.rh.b_; have hle := blk_lt HX.out.rh.e_; have hlr := blk_lt HX.out.rh.r; have hcx := fun i => (show World.cell? _ ⟨w2.heap.size, i, none⟩ = (#[.int .i64 x.f0.f0, .int .i64 x.f0.f1, .int .i64 x.f0.f2, .int .i64 x.f0.f3.f0, .int .i64 x.f0.f3.f1, .int .i64 x.f0.f4.f0, .int .i64 x.f0.f4.f1, .int .i64 x.f0.f5, .int .i64 x.f0.f6, .int .i64 x.f0.f7, .bool x.f0.f8, .int .i64 x.f0.f9, .int .i64 x.f1, .bool x.f2, .int .i64 x.f3.f0, .int .i64 x.f3.f1, .int .i64 x.f3.f2, .int .i64 x.f3.f3.f0, .int .i64 x.f3.f3.f1, .int .i64 x.f3.f4.f0, .int .i64 x.f3.f4.f1, .int .i64 x.f3.f5, .int .i64 x.f3.f6, .int .i64 x.f3.f7, .bool x.f3.f8, .int .i64 x.f3.f9] : Array Value)[i]? from blk_cell HX.out.x_ i); have hlx := blk_lt HX.out.x_; have HK2 := Aside0.mk hk2; clear hb hk2)) | ((with_reducible refine gate_store (t := 46) (p := 4) rfl ?_); go_loud (refine wpList_store_row rfl 46 _ _ rfl (w.heap.size + 1 + 1) #[.int .i64 b.m.clk, .slice A0 b.m.L.length c0, .slice A2 nw c2] rfl rfl 46 _ HX.out.rh.r (by kernel_rfl) rfl (by simp [Value.oneCell']) ?_; have HFIN := Aside0.mk (HX.out.rh.fin #[.int .i64 b.m.clk, .slice A0 b.m.L.length c0, .slice A2 nw c2] HX.out.rh.kr HK2.out))))
 obtain ⟨hr9, hk9, hw9, hb9⟩ := HFIN.out
 unfold RhPost
 rw [HF.out]
 refine bodyPost_ret (v := .tuple #[.agg #[.int .i64 b.m.clk, .slice A0 b.m.L.length c0, .slice A2 nw c2], .int .i64 0]) ?_ rfl ⟨A0, c0, A2, c2, rfl, hk9, hw9, hb9, (by rw [List.length_set]; exact HLEN.out)⟩
 have hrow := run_loadVar_row (P := Try.prog) _ (w.heap.size + 1 + 1) 46 46 _ (0, 0) _ hr9 hu0 rfl (by kernel_rfl)
 simp [results, Try.results28, asAddr, hrow]
theorem rhear_back_hi {w : World} {B : Nat} (b : Rb) (A0 : Option Addr) (c0 : Nat) (A : Option Addr) (c nw : Nat) (e : Au.Ev) (hn : b.m.L.length ≤ 90000) (nd : (b.m.L.map S127.h).Nodup) (hB : B ≤ w.heap.size) (hkr : KR w B (.slice A0 b.m.L.length c0) b.m.L) (hkw : KW w B (.slice A nw c) b.W) (hlen : b.W.length = nw) (hnw : nw ≤ 64) (hr : rightJ e = true) (hwl : e.wk < (nw : Int)) (hk : e.k = 5) (ho : (rd_T66 b.W e.wk).f0.f2 = e.op) (h4 : ¬ e.op ≤ 4) :
  Calls Try.prog 28 #[.agg #[.int .i64 b.m.clk, .slice A0 b.m.L.length c0, .slice A nw c], .agg (evA e)] w (RhPost B w nw (rhearF b e)) := by
 have hu0 := Try.underlying46
 have hu1 := Try.underlying36
 have hu2 := Try.underlying50
 have hu3 := Try.underlying66
 have hu4 := Try.underlying43
 have hu5 := Try.underlying44
 have HF := Aside0.mk (show rhearF b e = (⟨b.m, b.W.set e.wk.toNat z66⟩, 0) by unfold rhearF; rw [if_neg (by rw [hr, hlen]; simp; omega), if_neg (show ¬ e.k = 1 by omega), if_neg (show ¬ e.k = 2 by omega), if_neg (show ¬ e.k = 3 by omega), if_neg (show ¬ e.k = 4 by omega)]; rw [if_pos (by unfold rans; simp only [Bool.and_eq_true, Bool.or_eq_true, beq_iff_eq, Bool.not_eq_true', decide_eq_false_iff_not]; simp_all)])
 have h0 := right_wk hr
 have HW0 := Aside0.mk h0
 obtain ⟨g, rfl, _, _⟩ := work_at hlen hkw h0 hwl
 obtain ⟨x, hx⟩ : ∃ x, rd_T66 b.W e.wk = x := ⟨_, rfl⟩
 have HXX := Aside0.mk hx
 have p0 : (0 ≤ e.wk) = True := eq_true h0
 have q0 : (e.wk < (nw : Int)) = True := eq_true hwl
 have d0 : decide (e.wk ≥ (nw : Int)) = false := decide_eq_false (by omega)
 have HWL := Aside0.mk hwl
 have qk1 : (e.k == 1) = false := beq_eq_false_iff_ne.2 (by omega)
 have qk2 : (e.k == 2) = false := beq_eq_false_iff_ne.2 (by omega)
 have qk3 : (e.k == 3) = false := beq_eq_false_iff_ne.2 (by omega)
 have qk4 : (e.k == 4) = false := beq_eq_false_iff_ne.2 (by omega)
 rw [hx] at ho
 have o0 : (x.f0.f2 == e.op) = true := beq_iff_eq.2 (ho)
 have l4 : decide (e.op ≤ 4) = false := decide_eq_false (h4)
 have CW : Aside0 (∀ W, Rh B w W b A0 c0 (some ⟨g, 0, none⟩) c nw e → Calls Try.prog 63 #[.agg #[.int .i64 b.m.clk, .slice A0 b.m.L.length c0, .slice (some ⟨g, 0, none⟩) nw c], .int .i64 e.wk, .agg #[.int .i64 0, .int .i64 0, .int .i64 0, .int .i64 0, .int .i64 0, .int .i64 0, .int .i64 0, .int .i64 0, .int .i64 0, .int .i64 0, .bool false, .int .i64 0, .int .i64 0, .bool false, .int .i64 0, .int .i64 0, .int .i64 0, .int .i64 0, .int .i64 0, .int .i64 0, .int .i64 0, .int .i64 0, .int .i64 0, .int .i64 0, .bool false, .int .i64 0]] W fun r w' => ∃ A2 c2, r = .returned (.agg #[.int .i64 b.m.clk, .slice A0 b.m.L.length c0, .slice A2 nw c2]) ∧ KW w' B (.slice A2 nw c2) (b.W.set e.wk.toNat z66) ∧ Below W.heap.size W w') := ⟨fun W hW => with_lit b.m.clk A0 _ c0 (some ⟨g, 0, none⟩) c nw b.W hlen e.wk h0 hwl hnw z66 hW.kw (Nat.le_trans hB hW.below.size)⟩
 have CR := Aside0.mk (fun W => rright_run e W)
 rw [hr] at CR
 have HN := Aside0.mk hn
 have HND := Aside0.mk nd
 have HB := Aside0.mk hB
 have HNW := Aside0.mk hnw
 have HLEN := Aside0.mk hlen
 have HRT := Aside0.mk hr
 have HJ := Aside0.mk (Rh.start hkr hkw hlen e)
 clear hn nd hB hkr hkw hlen hnw hr hwl hk ho h4
 have hcb := fun i => blk_cell HJ.out.b_ i
 have hce := fun i => blk_cell HJ.out.e_ i
 have hlb := blk_lt HJ.out.b_
 have hle := blk_lt HJ.out.e_
 have hlr := blk_lt HJ.out.r
 go_enter Try.func28, Try.ntmps28
 clear hx h0
 go_upto_region 8 with (first | (go_at_call 62; (with_reducible refine (CR.out _).mono ?_); rintro r w2 ⟨rfl, hb⟩; have HJ2 := Aside0.mk (HJ.out.step hb); clear hcb hce hlb hle hlr HJ; have HJ := HJ2; clear HJ2; have hcb := fun i => blk_cell HJ.out.b_ i; have hce := fun i => blk_cell HJ.out.e_ i; have hlb := blk_lt HJ.out.b_; have hle := blk_lt HJ.out.e_; have hlr := blk_lt HJ.out.r; clear hb) | ((with_reducible refine Go.Proofs.Ythniclbmpeklmaa.Ev.gate_load (t := 66) (p := 43) rfl ?_); go_loud (refine wpList_load_at rfl 66 _ rfl g (e.wk.toNat * 26) ?hx (wA x) _ ?hc hu3 rfl (wA_info x) ?_; (case hx => rfl); (case hc => obtain ⟨g2, q, _, q2⟩ := work_at HJ.out.len HJ.out.kw HW0.out HWL.out; rw [HXX.out] at q2; obtain rfl : g = g2 := (by injection q with q; injection q); exact q2))) | ((with_reducible refine gate_store (t := 66) (p := 8) rfl ?_); go_loud (refine wpList_store_row rfl 66 _ _ rfl (w2.heap.size) (wA x) rfl rfl 66 _ (blk_new w2 (.cells #[.int .i64 0, .int .i64 0, .int .i64 0, .int .i64 0, .int .i64 0, .int .i64 0, .int .i64 0, .int .i64 0, .int .i64 0, .int .i64 0, .bool false, .int .i64 0, .int .i64 0, .bool false, .int .i64 0, .int .i64 0, .int .i64 0, .int .i64 0, .int .i64 0, .int .i64 0, .int .i64 0, .int .i64 0, .int .i64 0, .int .i64 0, .bool false, .int .i64 0] 66)) (wA_info x) rfl (wA_one x) ?_; have HX := Aside0.mk (show Rx B w _ b A0 c0 (some ⟨g, 0, none⟩) c nw e w2.heap.size (wA x) from ⟨(HJ.out.newrow #[.int .i64 0, .int .i64 0, .int .i64 0, .int .i64 0, .int .i64 0, .int .i64 0, .int .i64 0, .int .i64 0, .int .i64 0, .int .i64 0, .bool false, .int .i64 0, .int .i64 0, .bool false, .int .i64 0, .int .i64 0, .int .i64 0, .int .i64 0, .int .i64 0, .int .i64 0, .int .i64 0, .int .i64 0, .int .i64 0, .int .i64 0, .bool false, .int .i64 0] (wA x) 66).1, (HJ.out.newrow #[.int .i64 0, .int .i64 0, .int .i64 0, .int .i64 0, .int .i64 0, .int .i64 0, .int .i64 0, .int .i64 0, .int .i64 0, .int .i64 0, .bool false, .int .i64 0, .int .i64 0, .bool false, .int .i64 0, .int .i64 0, .int .i64 0, .int .i64 0, .int .i64 0, .int .i64 0, .int .i64 0, .int .i64 0, .int .i64 0, .int .i64 0, .bool false, .int .i64 0] (wA x) 66).2, blk_lt HJ.out.r, own_ne HJ.out.len HJ.out.kw HW0.out HWL.out⟩); clear hcb hce hlb hle hlr HJ)))
 refine gen_world' (fun W => Rx B w W b A0 c0 (some ⟨g, 0, none⟩) c nw e w2.heap.size (wA x)) (by exact HX.out) fun W3 H3 => ?_
 have HX := Aside0.mk H3
 clear H3 p0 q0
 have hcb := fun i => blk_cell HX.out.rh.b_ i
 have hce := fun i => blk_cell HX.out.rh.e_ i
 have hlb := blk_lt HX.out.rh.b_
 have hle := blk_lt HX.out.rh.e_
 have hlr := blk_lt HX.out.rh.r
 have hcx := fun i => (show World.cell? _ ⟨w2.heap.size, i, none⟩ = (#[.int .i64 x.f0.f0, .int .i64 x.f0.f1, .int .i64 x.f0.f2, .int .i64 x.f0.f3.f0, .int .i64 x.f0.f3.f1, .int .i64 x.f0.f4.f0, .int .i64 x.f0.f4.f1, .int .i64 x.f0.f5, .int .i64 x.f0.f6, .int .i64 x.f0.f7, .bool x.f0.f8, .int .i64 x.f0.f9, .int .i64 x.f1, .bool x.f2, .int .i64 x.f3.f0, .int .i64 x.f3.f1, .int .i64 x.f3.f2, .int .i64 x.f3.f3.f0, .int .i64 x.f3.f3.f1, .int .i64 x.f3.f4.f0, .int .i64 x.f3.f4.f1, .int .i64 x.f3.f5, .int .i64 x.f3.f6, .int .i64 x.f3.f7, .bool x.f3.f8, .int .i64 x.f3.f9] : Array Value)[i]? from blk_cell HX.out.x_ i)
 have hlx := blk_lt HX.out.x_
 go_wp2_with (first | (go_at_call 63; go_loud ((with_reducible refine (CW.out _ HX.out.rh).mono ?_); rintro r w4 ⟨A2, c2, rfl, hk2, hb⟩; have HX2 := Aside0.mk (HX.out.step hb); clear hcb hce hlb hle hlr hcx hlx HX; have HX := HX2; clear HX2; have hcb := fun i => blk_cell HX.out.rh.b_ i; have hce := fun i => blk_cell HX.out.rh.e_ i; have hlb := blk_lt HX.out.rh.b_; have hle := blk_lt HX.out.rh.e_; have hlr := blk_lt HX.out.rh.r; have hcx := fun i => (show World.cell? _ ⟨w2.heap.size, i, none⟩ = (#[.int .i64 x.f0.f0, .int .i64 x.f0.f1, .int .i64 x.f0.f2, .int .i64 x.f0.f3.f0, .int .i64 x.f0.f3.f1, .int .i64 x.f0.f4.f0, .int .i64 x.f0.f4.f1, .int .i64 x.f0.f5, .int .i64 x.f0.f6, .int .i64 x.f0.f7, .bool x.f0.f8, .int .i64 x.f0.f9, .int .i64 x.f1, .bool x.f2, .int .i64 x.f3.f0, .int .i64 x.f3.f1, .int .i64 x.f3.f2, .int .i64 x.f3.f3.f0, .int .i64 x.f3.f3.f1, .int .i64 x.f3.f4.f0, .int .i64 x.f3.f4.f1, .int .i64 x.f3.f5, .int .i64 x.f3.f6, .int .i64 x.f3.f7, .bool x.f3.f8, .int .i64 x.f3.f9] : Array Value)[i]? from blk_cell HX.out.x_ i); have hlx := blk_lt HX.out.x_; have HK2 := Aside0.mk hk2; clear hb hk2)) | ((with_reducible refine gate_store (t := 46) (p := 4) rfl ?_); go_loud (refine wpList_store_row rfl 46 _ _ rfl (w.heap.size + 1 + 1) #[.int .i64 b.m.clk, .slice A0 b.m.L.length c0, .slice A2 nw c2] rfl rfl 46 _ HX.out.rh.r (by kernel_rfl) rfl (by simp [Value.oneCell']) ?_; have HFIN := Aside0.mk (HX.out.rh.fin #[.int .i64 b.m.clk, .slice A0 b.m.L.length c0, .slice A2 nw c2] HX.out.rh.kr HK2.out))))
 obtain ⟨hr9, hk9, hw9, hb9⟩ := HFIN.out
 unfold RhPost
 rw [HF.out]
 refine bodyPost_ret (v := .tuple #[.agg #[.int .i64 b.m.clk, .slice A0 b.m.L.length c0, .slice A2 nw c2], .int .i64 0]) ?_ rfl ⟨A0, c0, A2, c2, rfl, hk9, hw9, hb9, (by rw [List.length_set]; exact HLEN.out)⟩
 have hrow := run_loadVar_row (P := Try.prog) _ (w.heap.size + 1 + 1) 46 46 _ (0, 0) _ hr9 hu0 rfl (by kernel_rfl)
 simp [results, Try.results28, asAddr, hrow]
theorem rhear_back {w : World} {B : Nat} (b : Rb) (A0 : Option Addr) (c0 : Nat) (A : Option Addr) (c nw : Nat) (e : Au.Ev) (hn : b.m.L.length ≤ 90000) (nd : (b.m.L.map S127.h).Nodup) (hB : B ≤ w.heap.size) (hkr : KR w B (.slice A0 b.m.L.length c0) b.m.L) (hkw : KW w B (.slice A nw c) b.W) (hlen : b.W.length = nw) (hnw : nw ≤ 64) (hr : rightJ e = true) (hwl : e.wk < (nw : Int)) (hk : e.k = 5) (ho : (rd_T66 b.W e.wk).f0.f2 = e.op) (h4 : e.op ≤ 4) (hp : (rd_T66 b.W e.wk).f2 = true) (hq : ((rd_T66 b.W e.wk).f3.f4.f0 == e.nn && (rd_T66 b.W e.wk).f3.f4.f1 == e.ng) = true) (hy : ((rd_T66 b.W e.wk).f3.f8 == e.y) = true) (hz : ((rd_T66 b.W e.wk).f3.f9 == e.er) = true) :
  Calls Try.prog 28 #[.agg #[.int .i64 b.m.clk, .slice A0 b.m.L.length c0, .slice A nw c], .agg (evA e)] w (RhPost B w nw (rhearF b e)) := by
 have hu0 := Try.underlying46
 have hu1 := Try.underlying36
 have hu2 := Try.underlying50
 have hu3 := Try.underlying66
 have hu4 := Try.underlying43
 have hu5 := Try.underlying44
 have HF := Aside0.mk (show rhearF b e = (⟨b.m, b.W.set e.wk.toNat z66⟩, 0) by unfold rhearF; rw [if_neg (by rw [hr, hlen]; simp; omega), if_neg (show ¬ e.k = 1 by omega), if_neg (show ¬ e.k = 2 by omega), if_neg (show ¬ e.k = 3 by omega), if_neg (show ¬ e.k = 4 by omega)]; rw [if_pos (by unfold rans; simp only [Bool.and_eq_true, Bool.or_eq_true, beq_iff_eq, Bool.not_eq_true', decide_eq_false_iff_not]; simp_all)])
 have h0 := right_wk hr
 have HW0 := Aside0.mk h0
 obtain ⟨g, rfl, _, _⟩ := work_at hlen hkw h0 hwl
 obtain ⟨x, hx⟩ : ∃ x, rd_T66 b.W e.wk = x := ⟨_, rfl⟩
 have HXX := Aside0.mk hx
 have p0 : (0 ≤ e.wk) = True := eq_true h0
 have q0 : (e.wk < (nw : Int)) = True := eq_true hwl
 have d0 : decide (e.wk ≥ (nw : Int)) = false := decide_eq_false (by omega)
 have HWL := Aside0.mk hwl
 have qk1 : (e.k == 1) = false := beq_eq_false_iff_ne.2 (by omega)
 have qk2 : (e.k == 2) = false := beq_eq_false_iff_ne.2 (by omega)
 have qk3 : (e.k == 3) = false := beq_eq_false_iff_ne.2 (by omega)
 have qk4 : (e.k == 4) = false := beq_eq_false_iff_ne.2 (by omega)
 rw [hx] at ho hp hq hy hz
 have o0 : (x.f0.f2 == e.op) = true := beq_iff_eq.2 (ho)
 have l4 : decide (e.op ≤ 4) = true := decide_eq_true (h4)
 have zhp := hp
 have zhq := hq
 have zhy := hy
 have zhz := hz
 have CW : Aside0 (∀ W, Rh B w W b A0 c0 (some ⟨g, 0, none⟩) c nw e → Calls Try.prog 63 #[.agg #[.int .i64 b.m.clk, .slice A0 b.m.L.length c0, .slice (some ⟨g, 0, none⟩) nw c], .int .i64 e.wk, .agg #[.int .i64 0, .int .i64 0, .int .i64 0, .int .i64 0, .int .i64 0, .int .i64 0, .int .i64 0, .int .i64 0, .int .i64 0, .int .i64 0, .bool false, .int .i64 0, .int .i64 0, .bool false, .int .i64 0, .int .i64 0, .int .i64 0, .int .i64 0, .int .i64 0, .int .i64 0, .int .i64 0, .int .i64 0, .int .i64 0, .int .i64 0, .bool false, .int .i64 0]] W fun r w' => ∃ A2 c2, r = .returned (.agg #[.int .i64 b.m.clk, .slice A0 b.m.L.length c0, .slice A2 nw c2]) ∧ KW w' B (.slice A2 nw c2) (b.W.set e.wk.toNat z66) ∧ Below W.heap.size W w') := ⟨fun W hW => with_lit b.m.clk A0 _ c0 (some ⟨g, 0, none⟩) c nw b.W hlen e.wk h0 hwl hnw z66 hW.kw (Nat.le_trans hB hW.below.size)⟩
 have CR := Aside0.mk (fun W => rright_run e W)
 rw [hr] at CR
 have HN := Aside0.mk hn
 have HND := Aside0.mk nd
 have HB := Aside0.mk hB
 have HNW := Aside0.mk hnw
 have HLEN := Aside0.mk hlen
 have HRT := Aside0.mk hr
 have HJ := Aside0.mk (Rh.start hkr hkw hlen e)
 clear hn nd hB hkr hkw hlen hnw hr hwl hk ho h4 hp hq hy hz
 have hcb := fun i => blk_cell HJ.out.b_ i
 have hce := fun i => blk_cell HJ.out.e_ i
 have hlb := blk_lt HJ.out.b_
 have hle := blk_lt HJ.out.e_
 have hlr := blk_lt HJ.out.r
 go_enter Try.func28, Try.ntmps28
 clear hx h0
 go_upto_region 8 with (first | (go_at_call 62; (with_reducible refine (CR.out _).mono ?_); rintro r w2 ⟨rfl, hb⟩; have HJ2 := Aside0.mk (HJ.out.step hb); clear hcb hce hlb hle hlr HJ; have HJ := HJ2; clear HJ2; have hcb := fun i => blk_cell HJ.out.b_ i; have hce := fun i => blk_cell HJ.out.e_ i; have hlb := blk_lt HJ.out.b_; have hle := blk_lt HJ.out.e_; have hlr := blk_lt HJ.out.r; clear hb) | ((with_reducible refine Go.Proofs.Ythniclbmpeklmaa.Ev.gate_load (t := 66) (p := 43) rfl ?_); go_loud (refine wpList_load_at rfl 66 _ rfl g (e.wk.toNat * 26) ?hx (wA x) _ ?hc hu3 rfl (wA_info x) ?_; (case hx => rfl); (case hc => obtain ⟨g2, q, _, q2⟩ := work_at HJ.out.len HJ.out.kw HW0.out HWL.out; rw [HXX.out] at q2; obtain rfl : g = g2 := (by injection q with q; injection q); exact q2))) | ((with_reducible refine gate_store (t := 66) (p := 8) rfl ?_); go_loud (refine wpList_store_row rfl 66 _ _ rfl (w2.heap.size) (wA x) rfl rfl 66 _ (blk_new w2 (.cells #[.int .i64 0, .int .i64 0, .int .i64 0, .int .i64 0, .int .i64 0, .int .i64 0, .int .i64 0, .int .i64 0, .int .i64 0, .int .i64 0, .bool false, .int .i64 0, .int .i64 0, .bool false, .int .i64 0, .int .i64 0, .int .i64 0, .int .i64 0, .int .i64 0, .int .i64 0, .int .i64 0, .int .i64 0, .int .i64 0, .int .i64 0, .bool false, .int .i64 0] 66)) (wA_info x) rfl (wA_one x) ?_; have HX := Aside0.mk (show Rx B w _ b A0 c0 (some ⟨g, 0, none⟩) c nw e w2.heap.size (wA x) from ⟨(HJ.out.newrow #[.int .i64 0, .int .i64 0, .int .i64 0, .int .i64 0, .int .i64 0, .int .i64 0, .int .i64 0, .int .i64 0, .int .i64 0, .int .i64 0, .bool false, .int .i64 0, .int .i64 0, .bool false, .int .i64 0, .int .i64 0, .int .i64 0, .int .i64 0, .int .i64 0, .int .i64 0, .int .i64 0, .int .i64 0, .int .i64 0, .int .i64 0, .bool false, .int .i64 0] (wA x) 66).1, (HJ.out.newrow #[.int .i64 0, .int .i64 0, .int .i64 0, .int .i64 0, .int .i64 0, .int .i64 0, .int .i64 0, .int .i64 0, .int .i64 0, .int .i64 0, .bool false, .int .i64 0, .int .i64 0, .bool false, .int .i64 0, .int .i64 0, .int .i64 0, .int .i64 0, .int .i64 0, .int .i64 0, .int .i64 0, .int .i64 0, .int .i64 0, .int .i64 0, .bool false, .int .i64 0] (wA x) 66).2, blk_lt HJ.out.r, own_ne HJ.out.len HJ.out.kw HW0.out HWL.out⟩); clear hcb hce hlb hle hlr HJ)))
 refine gen_world' (fun W => Rx B w W b A0 c0 (some ⟨g, 0, none⟩) c nw e w2.heap.size (wA x)) (by exact HX.out) fun W3 H3 => ?_
 have HX := Aside0.mk H3
 clear H3 p0 q0
 have hcb := fun i => blk_cell HX.out.rh.b_ i
 have hce := fun i => blk_cell HX.out.rh.e_ i
 have hlb := blk_lt HX.out.rh.b_
 have hle := blk_lt HX.out.rh.e_
 have hlr := blk_lt HX.out.rh.r
 have hcx := fun i => (show World.cell? _ ⟨w2.heap.size, i, none⟩ = (#[.int .i64 x.f0.f0, .int .i64 x.f0.f1, .int .i64 x.f0.f2, .int .i64 x.f0.f3.f0, .int .i64 x.f0.f3.f1, .int .i64 x.f0.f4.f0, .int .i64 x.f0.f4.f1, .int .i64 x.f0.f5, .int .i64 x.f0.f6, .int .i64 x.f0.f7, .bool x.f0.f8, .int .i64 x.f0.f9, .int .i64 x.f1, .bool x.f2, .int .i64 x.f3.f0, .int .i64 x.f3.f1, .int .i64 x.f3.f2, .int .i64 x.f3.f3.f0, .int .i64 x.f3.f3.f1, .int .i64 x.f3.f4.f0, .int .i64 x.f3.f4.f1, .int .i64 x.f3.f5, .int .i64 x.f3.f6, .int .i64 x.f3.f7, .bool x.f3.f8, .int .i64 x.f3.f9] : Array Value)[i]? from blk_cell HX.out.x_ i)
 have hlx := blk_lt HX.out.x_
 go_wp2_with (first | (go_at_call 63; go_loud ((with_reducible refine (CW.out _ HX.out.rh).mono ?_); rintro r w4 ⟨A2, c2, rfl, hk2, hb⟩; have HX2 := Aside0.mk (HX.out.step hb); clear hcb hce hlb hle hlr hcx hlx HX; have HX := HX2; clear HX2; have hcb := fun i => blk_cell HX.out.rh.b_ i; have hce := fun i => blk_cell HX.out.rh.e_ i; have hlb := blk_lt HX.out.rh.b_; have hle := blk_lt HX.out.rh.e_; have hlr := blk_lt HX.out.rh.r; have hcx := fun i => (show World.cell? _ ⟨w2.heap.size, i, none⟩ = (#[.int .i64 x.f0.f0, .int .i64 x.f0.f1, .int .i64 x.f0.f2, .int .i64 x.f0.f3.f0, .int .i64 x.f0.f3.f1, .int .i64 x.f0.f4.f0, .int .i64 x.f0.f4.f1, .int .i64 x.f0.f5, .int .i64 x.f0.f6, .int .i64 x.f0.f7, .bool x.f0.f8, .int .i64 x.f0.f9, .int .i64 x.f1, .bool x.f2, .int .i64 x.f3.f0, .int .i64 x.f3.f1, .int .i64 x.f3.f2, .int .i64 x.f3.f3.f0, .int .i64 x.f3.f3.f1, .int .i64 x.f3.f4.f0, .int .i64 x.f3.f4.f1, .int .i64 x.f3.f5, .int .i64 x.f3.f6, .int .i64 x.f3.f7, .bool x.f3.f8, .int .i64 x.f3.f9] : Array Value)[i]? from blk_cell HX.out.x_ i); have hlx := blk_lt HX.out.x_; have HK2 := Aside0.mk hk2; clear hb hk2)) | ((with_reducible refine gate_store (t := 46) (p := 4) rfl ?_); go_loud (refine wpList_store_row rfl 46 _ _ rfl (w.heap.size + 1 + 1) #[.int .i64 b.m.clk, .slice A0 b.m.L.length c0, .slice A2 nw c2] rfl rfl 46 _ HX.out.rh.r (by kernel_rfl) rfl (by simp [Value.oneCell']) ?_; have HFIN := Aside0.mk (HX.out.rh.fin #[.int .i64 b.m.clk, .slice A0 b.m.L.length c0, .slice A2 nw c2] HX.out.rh.kr HK2.out))))
 obtain ⟨hr9, hk9, hw9, hb9⟩ := HFIN.out
 unfold RhPost
 rw [HF.out]
 refine bodyPost_ret (v := .tuple #[.agg #[.int .i64 b.m.clk, .slice A0 b.m.L.length c0, .slice A2 nw c2], .int .i64 0]) ?_ rfl ⟨A0, c0, A2, c2, rfl, hk9, hw9, hb9, (by rw [List.length_set]; exact HLEN.out)⟩
 have hrow := run_loadVar_row (P := Try.prog) _ (w.heap.size + 1 + 1) 46 46 _ (0, 0) _ hr9 hu0 rfl (by kernel_rfl)
 simp [results, Try.results28, asAddr, hrow]
end Go.Proofs.Ythniclbmpeklmaa.KJf
end
section
set_option maxHeartbeats 4000000
set_option maxRecDepth 100000
namespace Go.Proofs.Ythniclbmpeklmaa.KJf
open Go.RowKit Go.Proofs.YthniclbmpeklmaaW.PrintWords Go.Proofs.YthniclbmpeklmaaW.PrintLast Go.Proofs.YthniclbmpeklmaaW.PrintMore Go.Proofs.Ythniclbmpeklmaa.Ju
open Go.Proofs.Ythniclbmpeklmaa.Au (evA types_ne RowIs)
open Go.Proofs.YthniclbmpeklmaaW.PrintWords renaming Ev → PE
set_option linter.unusedVariables false
set_option linter.unusedSimpArgs false
attribute [local go_sem high] eqA36
theorem rhear_point_no {w : World} {B : Nat} (b : Rb) (A0 : Option Addr) (c0 : Nat) (A : Option Addr) (c nw : Nat) (e : Au.Ev) (hn : b.m.L.length ≤ 90000) (nd : (b.m.L.map S127.h).Nodup) (hB : B ≤ w.heap.size) (hkr : KR w B (.slice A0 b.m.L.length c0) b.m.L) (hkw : KW w B (.slice A nw c) b.W) (hlen : b.W.length = nw) (hnw : nw ≤ 64) (hr : rightJ e = true) (hwl : e.wk < (nw : Int)) (hk : e.k = 3) (hpt : rptOk b.m.clk (rd_T66 b.W e.wk) e = false) (hxb : 0 ≤ (rd_T66 b.W e.wk).f1 ∧ (rd_T66 b.W e.wk).f1 ≤ 1000000) (hclk : b.m.clk ≤ 1000000) (htm : e.t ≤ 9223372036854775807) :
  Calls Try.prog 28 #[.agg #[.int .i64 b.m.clk, .slice A0 b.m.L.length c0, .slice A nw c], .agg (evA e)] w (RhPost B w nw (rhearF b e)) := by
 have hu0 := Try.underlying46
 have hu1 := Try.underlying36
 have hu2 := Try.underlying50
 have hu3 := Try.underlying66
 have hu4 := Try.underlying43
 have hu5 := Try.underlying44
 have HF := Aside0.mk (show rhearF b e = (b, 6) by unfold rhearF; rw [if_neg (by rw [hr, hlen]; simp; omega), if_neg (show ¬ e.k = 1 by omega), if_neg (show ¬ e.k = 2 by omega), if_pos hk]; rw [if_neg (by rw [hpt]; simp)])
 have h0 := right_wk hr
 have HW0 := Aside0.mk h0
 obtain ⟨g, rfl, _, _⟩ := work_at hlen hkw h0 hwl
 obtain ⟨x, hx⟩ : ∃ x, rd_T66 b.W e.wk = x := ⟨_, rfl⟩
 have HXX := Aside0.mk hx
 have p0 : (0 ≤ e.wk) = True := eq_true h0
 have q0 : (e.wk < (nw : Int)) = True := eq_true hwl
 have d0 : decide (e.wk ≥ (nw : Int)) = false := decide_eq_false (by omega)
 have HWL := Aside0.mk hwl
 have qk1 : (e.k == 1) = false := beq_eq_false_iff_ne.2 (by omega)
 have qk2 : (e.k == 2) = false := beq_eq_false_iff_ne.2 (by omega)
 have qk3 : (e.k == 3) = true := beq_iff_eq.2 hk
 have qk4 : (e.k == 4) = false := beq_eq_false_iff_ne.2 (by omega)
 rw [hx] at hpt hxb
 have CP : Aside0 (∀ W, Rh B w W b A0 c0 (some ⟨g, 0, none⟩) c nw e → Calls Try.prog 64 #[.agg #[.int .i64 b.m.clk, .slice A0 b.m.L.length c0, .slice (some ⟨g, 0, none⟩) nw c], .agg (wA x), .agg (evA e)] W fun r w' => r = .returned (.bool false) ∧ Below W.heap.size W w') := ⟨fun W hW => by have q := rpoint_any b.m.clk A0 c0 b.m.L (some ⟨g, 0, none⟩) c b.W x e hW.kr (by rw [hlen]; exact hW.kw) hr hk hxb.1 hxb.2 hclk htm; rw [hlen, hpt] at q; exact q⟩
 have CR := Aside0.mk (fun W => rright_run e W)
 rw [hr] at CR
 have HN := Aside0.mk hn
 have HND := Aside0.mk nd
 have HB := Aside0.mk hB
 have HNW := Aside0.mk hnw
 have HLEN := Aside0.mk hlen
 have HRT := Aside0.mk hr
 have HJ := Aside0.mk (Rh.start hkr hkw hlen e)
 clear hn nd hB hkr hkw hlen hnw hr hwl hk hpt hxb hclk htm
 have hcb := fun i => blk_cell HJ.out.b_ i
 have hce := fun i => blk_cell HJ.out.e_ i
 have hlb := blk_lt HJ.out.b_
 have hle := blk_lt HJ.out.e_
 have hlr := blk_lt HJ.out.r
 go_enter Try.func28, Try.ntmps28
 clear hx h0
 go_upto_region 8 with (first | (go_at_call 62; (with_reducible refine (CR.out _).mono ?_); rintro r w2 ⟨rfl, hb⟩; have HJ2 := Aside0.mk (HJ.out.step hb); clear hcb hce hlb hle hlr HJ; have HJ := HJ2; clear HJ2; have hcb := fun i => blk_cell HJ.out.b_ i; have hce := fun i => blk_cell HJ.out.e_ i; have hlb := blk_lt HJ.out.b_; have hle := blk_lt HJ.out.e_; have hlr := blk_lt HJ.out.r; clear hb) | ((with_reducible refine Go.Proofs.Ythniclbmpeklmaa.Ev.gate_load (t := 66) (p := 43) rfl ?_); go_loud (refine wpList_load_at rfl 66 _ rfl g (e.wk.toNat * 26) ?hx (wA x) _ ?hc hu3 rfl (wA_info x) ?_; (case hx => rfl); (case hc => obtain ⟨g2, q, _, q2⟩ := work_at HJ.out.len HJ.out.kw HW0.out HWL.out; rw [HXX.out] at q2; obtain rfl : g = g2 := (by injection q with q; injection q); exact q2))) | ((with_reducible refine gate_store (t := 66) (p := 8) rfl ?_); go_loud (refine wpList_store_row rfl 66 _ _ rfl (w2.heap.size) (wA x) rfl rfl 66 _ (blk_new w2 (.cells #[.int .i64 0, .int .i64 0, .int .i64 0, .int .i64 0, .int .i64 0, .int .i64 0, .int .i64 0, .int .i64 0, .int .i64 0, .int .i64 0, .bool false, .int .i64 0, .int .i64 0, .bool false, .int .i64 0, .int .i64 0, .int .i64 0, .int .i64 0, .int .i64 0, .int .i64 0, .int .i64 0, .int .i64 0, .int .i64 0, .int .i64 0, .bool false, .int .i64 0] 66)) (wA_info x) rfl (wA_one x) ?_; have HX := Aside0.mk (show Rx B w _ b A0 c0 (some ⟨g, 0, none⟩) c nw e w2.heap.size (wA x) from ⟨(HJ.out.newrow #[.int .i64 0, .int .i64 0, .int .i64 0, .int .i64 0, .int .i64 0, .int .i64 0, .int .i64 0, .int .i64 0, .int .i64 0, .int .i64 0, .bool false, .int .i64 0, .int .i64 0, .bool false, .int .i64 0, .int .i64 0, .int .i64 0, .int .i64 0, .int .i64 0, .int .i64 0, .int .i64 0, .int .i64 0, .int .i64 0, .int .i64 0, .bool false, .int .i64 0] (wA x) 66).1, (HJ.out.newrow #[.int .i64 0, .int .i64 0, .int .i64 0, .int .i64 0, .int .i64 0, .int .i64 0, .int .i64 0, .int .i64 0, .int .i64 0, .int .i64 0, .bool false, .int .i64 0, .int .i64 0, .bool false, .int .i64 0, .int .i64 0, .int .i64 0, .int .i64 0, .int .i64 0, .int .i64 0, .int .i64 0, .int .i64 0, .int .i64 0, .int .i64 0, .bool false, .int .i64 0] (wA x) 66).2, blk_lt HJ.out.r, own_ne HJ.out.len HJ.out.kw HW0.out HWL.out⟩); clear hcb hce hlb hle hlr HJ)))
 refine gen_world' (fun W => Rx B w W b A0 c0 (some ⟨g, 0, none⟩) c nw e w2.heap.size (wA x)) (by exact HX.out) fun W3 H3 => ?_
 have HX := Aside0.mk H3
 clear H3 p0 q0
 have hcb := fun i => blk_cell HX.out.rh.b_ i
 have hce := fun i => blk_cell HX.out.rh.e_ i
 have hlb := blk_lt HX.out.rh.b_
 have hle := blk_lt HX.out.rh.e_
 have hlr := blk_lt HX.out.rh.r
 have hcx := fun i => (show World.cell? _ ⟨w2.heap.size, i, none⟩ = (#[.int .i64 x.f0.f0, .int .i64 x.f0.f1, .int .i64 x.f0.f2, .int .i64 x.f0.f3.f0, .int .i64 x.f0.f3.f1, .int .i64 x.f0.f4.f0, .int .i64 x.f0.f4.f1, .int .i64 x.f0.f5, .int .i64 x.f0.f6, .int .i64 x.f0.f7, .bool x.f0.f8, .int .i64 x.f0.f9, .int .i64 x.f1, .bool x.f2, .int .i64 x.f3.f0, .int .i64 x.f3.f1, .int .i64 x.f3.f2, .int .i64 x.f3.f3.f0, .int .i64 x.f3.f3.f1, .int .i64 x.f3.f4.f0, .int .i64 x.f3.f4.f1, .int .i64 x.f3.f5, .int .i64 x.f3.f6, .int .i64 x.f3.f7, .bool x.f3.f8, .int .i64 x.f3.f9] : Array Value)[i]? from blk_cell HX.out.x_ i)
 have hlx := blk_lt HX.out.x_
 go_wp2_with (first | ((with_reducible refine Go.Proofs.Ythniclbmpeklmaa.Ev.gate_load (t := 66) (p := 8) rfl ?_); go_loud (refine wpList_load_row rfl 66 _ rfl (w2.heap.size) rfl 66 (wA x) (0, 0) _ HX.out.x_ hu3 rfl (wA_info _) ?_)) | (go_at_call 64; go_loud ((with_reducible refine (CP.out _ HX.out.rh).mono ?_); rintro r w4 ⟨rfl, hb⟩; have HX2 := Aside0.mk (HX.out.step hb); clear hcb hce hlb hle hlr hcx hlx HX; have HX := HX2; clear HX2; have hcb := fun i => blk_cell HX.out.rh.b_ i; have hce := fun i => blk_cell HX.out.rh.e_ i; have hlb := blk_lt HX.out.rh.b_; have hle := blk_lt HX.out.rh.e_; have hlr := blk_lt HX.out.rh.r; have hcx := fun i => (show World.cell? _ ⟨w2.heap.size, i, none⟩ = (#[.int .i64 x.f0.f0, .int .i64 x.f0.f1, .int .i64 x.f0.f2, .int .i64 x.f0.f3.f0, .int .i64 x.f0.f3.f1, .int .i64 x.f0.f4.f0, .int .i64 x.f0.f4.f1, .int .i64 x.f0.f5, .int .i64 x.f0.f6, .int .i64 x.f0.f7, .bool x.f0.f8, .int .i64 x.f0.f9, .int .i64 x.f1, .bool x.f2, .int .i64 x.f3.f0, .int .i64 x.f3.f1, .int .i64 x.f3.f2, .int .i64 x.f3.f3.f0, .int .i64 x.f3.f3.f1, .int .i64 x.f3.f4.f0, .int .i64 x.f3.f4.f1, .int .i64 x.f3.f5, .int .i64 x.f3.f6, .int .i64 x.f3.f7, .bool x.f3.f8, .int .i64 x.f3.f9] : Array Value)[i]? from blk_cell HX.out.x_ i); have hlx := blk_lt HX.out.x_; clear hb)) | ((with_reducible refine gate_store (t := 46) (p := 4) rfl ?_); go_loud (refine wpList_store_row rfl 46 _ _ rfl (w.heap.size + 1 + 1) #[.int .i64 b.m.clk, .slice A0 b.m.L.length c0, .slice (some ⟨g, 0, none⟩) nw c] rfl rfl 46 _ HX.out.rh.r (by kernel_rfl) rfl (by simp [Value.oneCell']) ?_; have HFIN := Aside0.mk (HX.out.rh.fin #[.int .i64 b.m.clk, .slice A0 b.m.L.length c0, .slice (some ⟨g, 0, none⟩) nw c] HX.out.rh.kr HX.out.rh.kw))))
 obtain ⟨hr9, hk9, hw9, hb9⟩ := HFIN.out
 unfold RhPost
 rw [HF.out]
 refine bodyPost_ret (v := .tuple #[.agg #[.int .i64 b.m.clk, .slice A0 b.m.L.length c0, .slice (some ⟨g, 0, none⟩) nw c], .int .i64 6]) ?_ rfl ⟨A0, c0, some ⟨g, 0, none⟩, c, rfl, hk9, hw9, hb9, HLEN.out⟩
 have hrow := run_loadVar_row (P := Try.prog) _ (w.heap.size + 1 + 1) 46 46 _ (0, 0) _ hr9 hu0 rfl (by kernel_rfl)
 simp [results, Try.results28, asAddr, hrow]
theorem rhear_point_fail {w : World} {B : Nat} (b : Rb) (A0 : Option Addr) (c0 : Nat) (A : Option Addr) (c nw : Nat) (e : Au.Ev) (hn : b.m.L.length ≤ 90000) (nd : (b.m.L.map S127.h).Nodup) (hB : B ≤ w.heap.size) (hkr : KR w B (.slice A0 b.m.L.length c0) b.m.L) (hkw : KW w B (.slice A nw c) b.W) (hlen : b.W.length = nw) (hnw : nw ≤ 64) (hr : rightJ e = true) (hwl : e.wk < (nw : Int)) (hk : e.k = 3) (hpt : rptOk b.m.clk (rd_T66 b.W e.wk) e = true) (hxb : 0 ≤ (rd_T66 b.W e.wk).f1 ∧ (rd_T66 b.W e.wk).f1 ≤ 1000000) (hclk : b.m.clk ≤ 1000000) (htm : e.t ≤ 9223372036854775807) (hz : ¬ (rdoF b.m e).2 = 0) :
  Calls Try.prog 28 #[.agg #[.int .i64 b.m.clk, .slice A0 b.m.L.length c0, .slice A nw c], .agg (evA e)] w (RhPost B w nw (rhearF b e)) := by
 have hu0 := Try.underlying46
 have hu1 := Try.underlying36
 have hu2 := Try.underlying50
 have hu3 := Try.underlying66
 have hu4 := Try.underlying43
 have hu5 := Try.underlying44
 have HF := Aside0.mk (show rhearF b e = (b, (rdoF b.m e).2) by unfold rhearF; rw [if_neg (by rw [hr, hlen]; simp; omega), if_neg (show ¬ e.k = 1 by omega), if_neg (show ¬ e.k = 2 by omega), if_pos hk]; rw [if_pos hpt]; unfold rcan; rw [if_neg hz])
 have h0 := right_wk hr
 have HW0 := Aside0.mk h0
 obtain ⟨g, rfl, _, _⟩ := work_at hlen hkw h0 hwl
 obtain ⟨x, hx⟩ : ∃ x, rd_T66 b.W e.wk = x := ⟨_, rfl⟩
 have HXX := Aside0.mk hx
 have p0 : (0 ≤ e.wk) = True := eq_true h0
 have q0 : (e.wk < (nw : Int)) = True := eq_true hwl
 have d0 : decide (e.wk ≥ (nw : Int)) = false := decide_eq_false (by omega)
 have HWL := Aside0.mk hwl
 have qk1 : (e.k == 1) = false := beq_eq_false_iff_ne.2 (by omega)
 have qk2 : (e.k == 2) = false := beq_eq_false_iff_ne.2 (by omega)
 have qk3 : (e.k == 3) = true := beq_iff_eq.2 hk
 have qk4 : (e.k == 4) = false := beq_eq_false_iff_ne.2 (by omega)
 rw [hx] at hpt hxb
 have CP : Aside0 (∀ W, Rh B w W b A0 c0 (some ⟨g, 0, none⟩) c nw e → Calls Try.prog 64 #[.agg #[.int .i64 b.m.clk, .slice A0 b.m.L.length c0, .slice (some ⟨g, 0, none⟩) nw c], .agg (wA x), .agg (evA e)] W fun r w' => r = .returned (.bool true) ∧ Below W.heap.size W w') := ⟨fun W hW => by have q := rpoint_any b.m.clk A0 c0 b.m.L (some ⟨g, 0, none⟩) c b.W x e hW.kr (by rw [hlen]; exact hW.kw) hr hk hxb.1 hxb.2 hclk htm; rw [hlen, hpt] at q; exact q⟩
 obtain ⟨⟨⟨clk1, L1⟩, k1⟩, hp⟩ : ∃ p, rdoF b.m e = p := ⟨_, rfl⟩
 have CD : Aside0 (∀ W, Rh B w W b A0 c0 (some ⟨g, 0, none⟩) c nw e → Calls Try.prog 45 #[.agg #[.int .i64 b.m.clk, .slice A0 b.m.L.length c0], .agg (evA e)] W fun r w' => ∃ A1 c1, r = .returned (.tuple #[.agg #[.int .i64 clk1, .slice A1 L1.length c1], .int .i64 k1]) ∧ KR w' B (.slice A1 L1.length c1) L1 ∧ Below W.heap.size W w') := ⟨fun W hW => do_lit (w := w) b.m A0 c0 e hn nd (Nat.le_trans hB hW.below.size) hW.kr hp⟩
 rw [hp] at hz HF
 have hzz : ¬ k1 = 0 := hz
 have kz : (k1 != 0) = true := bne_iff_ne.2 hzz
 have CR := Aside0.mk (fun W => rright_run e W)
 rw [hr] at CR
 have HN := Aside0.mk hn
 have HND := Aside0.mk nd
 have HB := Aside0.mk hB
 have HNW := Aside0.mk hnw
 have HLEN := Aside0.mk hlen
 have HRT := Aside0.mk hr
 have HJ := Aside0.mk (Rh.start hkr hkw hlen e)
 clear hn nd hB hkr hkw hlen hnw hr hwl hk hpt hxb hclk htm hz
 have hcb := fun i => blk_cell HJ.out.b_ i
 have hce := fun i => blk_cell HJ.out.e_ i
 have hlb := blk_lt HJ.out.b_
 have hle := blk_lt HJ.out.e_
 have hlr := blk_lt HJ.out.r
 go_enter Try.func28, Try.ntmps28
 clear hp hzz
 clear hx h0
 go_upto_region 8 with (first | (go_at_call 62; (with_reducible refine (CR.out _).mono ?_); rintro r w2 ⟨rfl, hb⟩; have HJ2 := Aside0.mk (HJ.out.step hb); clear hcb hce hlb hle hlr HJ; have HJ := HJ2; clear HJ2; have hcb := fun i => blk_cell HJ.out.b_ i; have hce := fun i => blk_cell HJ.out.e_ i; have hlb := blk_lt HJ.out.b_; have hle := blk_lt HJ.out.e_; have hlr := blk_lt HJ.out.r; clear hb) | ((with_reducible refine Go.Proofs.Ythniclbmpeklmaa.Ev.gate_load (t := 66) (p := 43) rfl ?_); go_loud (refine wpList_load_at rfl 66 _ rfl g (e.wk.toNat * 26) ?hx (wA x) _ ?hc hu3 rfl (wA_info x) ?_; (case hx => rfl); (case hc => obtain ⟨g2, q, _, q2⟩ := work_at HJ.out.len HJ.out.kw HW0.out HWL.out; rw [HXX.out] at q2; obtain rfl : g = g2 := (by injection q with q; injection q); exact q2))) | ((with_reducible refine gate_store (t := 66) (p := 8) rfl ?_); go_loud (refine wpList_store_row rfl 66 _ _ rfl (w2.heap.size) (wA x) rfl rfl 66 _ (blk_new w2 (.cells #[.int .i64 0, .int .i64 0, .int .i64 0, .int .i64 0, .int .i64 0, .int .i64 0, .int .i64 0, .int .i64 0, .int .i64 0, .int .i64 0, .bool false, .int .i64 0, .int .i64 0, .bool false, .int .i64 0, .int .i64 0, .int .i64 0, .int .i64 0, .int .i64 0, .int .i64 0, .int .i64 0, .int .i64 0, .int .i64 0, .int .i64 0, .bool false, .int .i64 0] 66)) (wA_info x) rfl (wA_one x) ?_; have HX := Aside0.mk (show Rx B w _ b A0 c0 (some ⟨g, 0, none⟩) c nw e w2.heap.size (wA x) from ⟨(HJ.out.newrow #[.int .i64 0, .int .i64 0, .int .i64 0, .int .i64 0, .int .i64 0, .int .i64 0, .int .i64 0, .int .i64 0, .int .i64 0, .int .i64 0, .bool false, .int .i64 0, .int .i64 0, .bool false, .int .i64 0, .int .i64 0, .int .i64 0, .int .i64 0, .int .i64 0, .int .i64 0, .int .i64 0, .int .i64 0, .int .i64 0, .int .i64 0, .bool false, .int .i64 0] (wA x) 66).1, (HJ.out.newrow #[.int .i64 0, .int .i64 0, .int .i64 0, .int .i64 0, .int .i64 0, .int .i64 0, .int .i64 0, .int .i64 0, .int .i64 0, .int .i64 0, .bool false, .int .i64 0, .int .i64 0, .bool false, .int .i64 0, .int .i64 0, .int .i64 0, .int .i64 0, .int .i64 0, .int .i64 0, .int .i64 0, .int .i64 0, .int .i64 0, .int .i64 0, .bool false, .int .i64 0] (wA x) 66).2, blk_lt HJ.out.r, own_ne HJ.out.len HJ.out.kw HW0.out HWL.out⟩); clear hcb hce hlb hle hlr HJ)))
 refine gen_world' (fun W => Rx B w W b A0 c0 (some ⟨g, 0, none⟩) c nw e w2.heap.size (wA x)) (by exact HX.out) fun W3 H3 => ?_
 have HX := Aside0.mk H3
 clear H3 p0 q0
 have hcb := fun i => blk_cell HX.out.rh.b_ i
 have hce := fun i => blk_cell HX.out.rh.e_ i
 have hlb := blk_lt HX.out.rh.b_
 have hle := blk_lt HX.out.rh.e_
 have hlr := blk_lt HX.out.rh.r
 have hcx := fun i => (show World.cell? _ ⟨w2.heap.size, i, none⟩ = (#[.int .i64 x.f0.f0, .int .i64 x.f0.f1, .int .i64 x.f0.f2, .int .i64 x.f0.f3.f0, .int .i64 x.f0.f3.f1, .int .i64 x.f0.f4.f0, .int .i64 x.f0.f4.f1, .int .i64 x.f0.f5, .int .i64 x.f0.f6, .int .i64 x.f0.f7, .bool x.f0.f8, .int .i64 x.f0.f9, .int .i64 x.f1, .bool x.f2, .int .i64 x.f3.f0, .int .i64 x.f3.f1, .int .i64 x.f3.f2, .int .i64 x.f3.f3.f0, .int .i64 x.f3.f3.f1, .int .i64 x.f3.f4.f0, .int .i64 x.f3.f4.f1, .int .i64 x.f3.f5, .int .i64 x.f3.f6, .int .i64 x.f3.f7, .bool x.f3.f8, .int .i64 x.f3.f9] : Array Value)[i]? from blk_cell HX.out.x_ i)
 have hlx := blk_lt HX.out.x_
 go_wp2_with (first | ((with_reducible refine Go.Proofs.Ythniclbmpeklmaa.Ev.gate_load (t := 66) (p := 8) rfl ?_); go_loud (refine wpList_load_row rfl 66 _ rfl (w2.heap.size) rfl 66 (wA x) (0, 0) _ HX.out.x_ hu3 rfl (wA_info _) ?_)) | (go_at_call 64; go_loud ((with_reducible refine (CP.out _ HX.out.rh).mono ?_); rintro r w4 ⟨rfl, hb⟩; have HX2 := Aside0.mk (HX.out.step hb); clear hcb hce hlb hle hlr hcx hlx HX; have HX := HX2; clear HX2; have hcb := fun i => blk_cell HX.out.rh.b_ i; have hce := fun i => blk_cell HX.out.rh.e_ i; have hlb := blk_lt HX.out.rh.b_; have hle := blk_lt HX.out.rh.e_; have hlr := blk_lt HX.out.rh.r; have hcx := fun i => (show World.cell? _ ⟨w2.heap.size, i, none⟩ = (#[.int .i64 x.f0.f0, .int .i64 x.f0.f1, .int .i64 x.f0.f2, .int .i64 x.f0.f3.f0, .int .i64 x.f0.f3.f1, .int .i64 x.f0.f4.f0, .int .i64 x.f0.f4.f1, .int .i64 x.f0.f5, .int .i64 x.f0.f6, .int .i64 x.f0.f7, .bool x.f0.f8, .int .i64 x.f0.f9, .int .i64 x.f1, .bool x.f2, .int .i64 x.f3.f0, .int .i64 x.f3.f1, .int .i64 x.f3.f2, .int .i64 x.f3.f3.f0, .int .i64 x.f3.f3.f1, .int .i64 x.f3.f4.f0, .int .i64 x.f3.f4.f1, .int .i64 x.f3.f5, .int .i64 x.f3.f6, .int .i64 x.f3.f7, .bool x.f3.f8, .int .i64 x.f3.f9] : Array Value)[i]? from blk_cell HX.out.x_ i); have hlx := blk_lt HX.out.x_; clear hb)) | (go_at_call 45; go_loud ((with_reducible refine (CD.out _ HX.out.rh).mono ?_); rintro r w5 ⟨A1, c1, rfl, hk1, hb⟩; have HX2 := Aside0.mk (HX.out.step hb); clear hcb hce hlb hle hlr hcx hlx HX; have HX := HX2; clear HX2; have hcb := fun i => blk_cell HX.out.rh.b_ i; have hce := fun i => blk_cell HX.out.rh.e_ i; have hlb := blk_lt HX.out.rh.b_; have hle := blk_lt HX.out.rh.e_; have hlr := blk_lt HX.out.rh.r; have hcx := fun i => (show World.cell? _ ⟨w2.heap.size, i, none⟩ = (#[.int .i64 x.f0.f0, .int .i64 x.f0.f1, .int .i64 x.f0.f2, .int .i64 x.f0.f3.f0, .int .i64 x.f0.f3.f1, .int .i64 x.f0.f4.f0, .int .i64 x.f0.f4.f1, .int .i64 x.f0.f5, .int .i64 x.f0.f6, .int .i64 x.f0.f7, .bool x.f0.f8, .int .i64 x.f0.f9, .int .i64 x.f1, .bool x.f2, .int .i64 x.f3.f0, .int .i64 x.f3.f1, .int .i64 x.f3.f2, .int .i64 x.f3.f3.f0, .int .i64 x.f3.f3.f1, .int .i64 x.f3.f4.f0, .int .i64 x.f3.f4.f1, .int .i64 x.f3.f5, .int .i64 x.f3.f6, .int .i64 x.f3.f7, .bool x.f3.f8, .int .i64 x.f3.f9] : Array Value)[i]? from blk_cell HX.out.x_ i); have hlx := blk_lt HX.out.x_; have HK1 := Aside0.mk hk1; clear hb hk1)) | ((with_reducible refine gate_store (t := 43) (p := 11) rfl ?_); go_loud (refine wpList_store_row rfl 43 _ _ rfl (w5.heap.size) #[.int .i64 clk1, .slice A1 L1.length c1] rfl rfl 43 _ (blk_new w5 (.cells #[.int .i64 0, .slice none 0 0] 43)) (by kernel_rfl) rfl (by simp [Value.oneCell']) ?_; have HT := Aside0.mk (HX.out.newrow #[.int .i64 0, .slice none 0 0] #[.int .i64 clk1, .slice A1 L1.length c1] 43).2; have HK2 := Aside0.mk (KR.keep (Kd.R_below HK1.out (below_alloc (Below.refl _ _) (.cells #[.int .i64 0, .slice none 0 0] 43))) (W1 := (w5.alloc (.cells #[.int .i64 0, .slice none 0 0] 43)).setRow w5.heap.size #[.int .i64 clk1, .slice A1 L1.length c1]) (fun g cs hg => setRow_other _ _ g _ (types_ne hg (blk_new w5 _) (by decide)))); clear HK1; have HK1 := HK2; clear HK2; have hct := fun i => blk_cell HT.out i; have hlt := blk_lt HT.out; have HX2 := Aside0.mk ((HX.out.newrow #[.int .i64 0, .slice none 0 0] #[.int .i64 clk1, .slice A1 L1.length c1] 43).1); clear hcb hce hlb hle hlr hcx hlx HX; have HX := HX2; clear HX2; have hcb := fun i => blk_cell HX.out.rh.b_ i; have hce := fun i => blk_cell HX.out.rh.e_ i; have hlb := blk_lt HX.out.rh.b_; have hle := blk_lt HX.out.rh.e_; have hlr := blk_lt HX.out.rh.r; have hcx := fun i => (show World.cell? _ ⟨w2.heap.size, i, none⟩ = (#[.int .i64 x.f0.f0, .int .i64 x.f0.f1, .int .i64 x.f0.f2, .int .i64 x.f0.f3.f0, .int .i64 x.f0.f3.f1, .int .i64 x.f0.f4.f0, .int .i64 x.f0.f4.f1, .int .i64 x.f0.f5, .int .i64 x.f0.f6, .int .i64 x.f0.f7, .bool x.f0.f8, .int .i64 x.f0.f9, .int .i64 x.f1, .bool x.f2, .int .i64 x.f3.f0, .int .i64 x.f3.f1, .int .i64 x.f3.f2, .int .i64 x.f3.f3.f0, .int .i64 x.f3.f3.f1, .int .i64 x.f3.f4.f0, .int .i64 x.f3.f4.f1, .int .i64 x.f3.f5, .int .i64 x.f3.f6, .int .i64 x.f3.f7, .bool x.f3.f8, .int .i64 x.f3.f9] : Array Value)[i]? from blk_cell HX.out.x_ i); have hlx := blk_lt HX.out.x_)) | ((with_reducible refine gate_store (t := 46) (p := 4) rfl ?_); go_loud (refine wpList_store_row rfl 46 _ _ rfl (w.heap.size + 1 + 1) #[.int .i64 b.m.clk, .slice A0 b.m.L.length c0, .slice (some ⟨g, 0, none⟩) nw c] rfl rfl 46 _ HX.out.rh.r (by kernel_rfl) rfl (by simp [Value.oneCell']) ?_; have HFIN := Aside0.mk (HX.out.rh.fin #[.int .i64 b.m.clk, .slice A0 b.m.L.length c0, .slice (some ⟨g, 0, none⟩) nw c] HX.out.rh.kr HX.out.rh.kw))))
 obtain ⟨hr9, hk9, hw9, hb9⟩ := HFIN.out
 unfold RhPost
 rw [HF.out]
 refine bodyPost_ret (v := .tuple #[.agg #[.int .i64 b.m.clk, .slice A0 b.m.L.length c0, .slice (some ⟨g, 0, none⟩) nw c], .int .i64 k1]) ?_ rfl ⟨A0, c0, some ⟨g, 0, none⟩, c, rfl, hk9, hw9, hb9, HLEN.out⟩
 have hrow := run_loadVar_row (P := Try.prog) _ (w.heap.size + 1 + 1) 46 46 _ (0, 0) _ hr9 hu0 rfl (by kernel_rfl)
 simp [results, Try.results28, asAddr, hrow]
theorem rhear_fire_fail {w : World} {B : Nat} (b : Rb) (A0 : Option Addr) (c0 : Nat) (A : Option Addr) (c nw : Nat) (e : Au.Ev) (hn : b.m.L.length ≤ 90000) (nd : (b.m.L.map S127.h).Nodup) (hB : B ≤ w.heap.size) (hkr : KR w B (.slice A0 b.m.L.length c0) b.m.L) (hkw : KW w B (.slice A nw c) b.W) (hlen : b.W.length = nw) (hnw : nw ≤ 64) (hr : rightJ e = true) (hwl : e.wk < (nw : Int)) (hk : e.k = 4) (hi : (rd_T66 b.W e.wk).f0.f2 = 5) (ht : (rd_T66 b.W e.wk).f1 ≤ e.t) (hz : ¬ (rdoF b.m e).2 = 0) :
  Calls Try.prog 28 #[.agg #[.int .i64 b.m.clk, .slice A0 b.m.L.length c0, .slice A nw c], .agg (evA e)] w (RhPost B w nw (rhearF b e)) := by
 have hu0 := Try.underlying46
 have hu1 := Try.underlying36
 have hu2 := Try.underlying50
 have hu3 := Try.underlying66
 have hu4 := Try.underlying43
 have hu5 := Try.underlying44
 have HF := Aside0.mk (show rhearF b e = (b, (rdoF b.m e).2) by unfold rhearF; rw [if_neg (by rw [hr, hlen]; simp; omega), if_neg (show ¬ e.k = 1 by omega), if_neg (show ¬ e.k = 2 by omega), if_neg (show ¬ e.k = 3 by omega), if_pos hk]; rw [if_pos ⟨hi, ht⟩]; unfold rcan; rw [if_neg hz])
 have h0 := right_wk hr
 have HW0 := Aside0.mk h0
 obtain ⟨g, rfl, _, _⟩ := work_at hlen hkw h0 hwl
 obtain ⟨x, hx⟩ : ∃ x, rd_T66 b.W e.wk = x := ⟨_, rfl⟩
 have HXX := Aside0.mk hx
 have p0 : (0 ≤ e.wk) = True := eq_true h0
 have q0 : (e.wk < (nw : Int)) = True := eq_true hwl
 have d0 : decide (e.wk ≥ (nw : Int)) = false := decide_eq_false (by omega)
 have HWL := Aside0.mk hwl
 have qk1 : (e.k == 1) = false := beq_eq_false_iff_ne.2 (by omega)
 have qk2 : (e.k == 2) = false := beq_eq_false_iff_ne.2 (by omega)
 have qk3 : (e.k == 3) = false := beq_eq_false_iff_ne.2 (by omega)
 have qk4 : (e.k == 4) = true := beq_iff_eq.2 hk
 rw [hx] at hi ht
 have i5 : (x.f0.f2 == 5) = true := beq_iff_eq.2 (hi)
 have t5 : decide (e.t ≥ x.f1) = true := decide_eq_true (ht)
 obtain ⟨⟨⟨clk1, L1⟩, k1⟩, hp⟩ : ∃ p, rdoF b.m e = p := ⟨_, rfl⟩
 have CD : Aside0 (∀ W, Rh B w W b A0 c0 (some ⟨g, 0, none⟩) c nw e → Calls Try.prog 45 #[.agg #[.int .i64 b.m.clk, .slice A0 b.m.L.length c0], .agg (evA e)] W fun r w' => ∃ A1 c1, r = .returned (.tuple #[.agg #[.int .i64 clk1, .slice A1 L1.length c1], .int .i64 k1]) ∧ KR w' B (.slice A1 L1.length c1) L1 ∧ Below W.heap.size W w') := ⟨fun W hW => do_lit (w := w) b.m A0 c0 e hn nd (Nat.le_trans hB hW.below.size) hW.kr hp⟩
 rw [hp] at hz HF
 have hzz : ¬ k1 = 0 := hz
 have kz : (k1 != 0) = true := bne_iff_ne.2 hzz
 have CR := Aside0.mk (fun W => rright_run e W)
 rw [hr] at CR
 have HN := Aside0.mk hn
 have HND := Aside0.mk nd
 have HB := Aside0.mk hB
 have HNW := Aside0.mk hnw
 have HLEN := Aside0.mk hlen
 have HRT := Aside0.mk hr
 have HJ := Aside0.mk (Rh.start hkr hkw hlen e)
 clear hn nd hB hkr hkw hlen hnw hr hwl hk hi ht hz
 have hcb := fun i => blk_cell HJ.out.b_ i
 have hce := fun i => blk_cell HJ.out.e_ i
 have hlb := blk_lt HJ.out.b_
 have hle := blk_lt HJ.out.e_
 have hlr := blk_lt HJ.out.r
 go_enter Try.func28, Try.ntmps28
 clear hp hzz
 clear hx h0
 go_upto_region 8 with (first | (go_at_call 62; (with_reducible refine (CR.out _).mono ?_); rintro r w2 ⟨rfl, hb⟩; have HJ2 := Aside0.mk (HJ.out.step hb); clear hcb hce hlb hle hlr HJ; have HJ := HJ2; clear HJ2; have hcb := fun i => blk_cell HJ.out.b_ i; have hce := fun i => blk_cell HJ.out.e_ i; have hlb := blk_lt HJ.out.b_; have hle := blk_lt HJ.out.e_; have hlr := blk_lt HJ.out.r; clear hb) | ((with_reducible refine Go.Proofs.Ythniclbmpeklmaa.Ev.gate_load (t := 66) (p := 43) rfl ?_); go_loud (refine wpList_load_at rfl 66 _ rfl g (e.wk.toNat * 26) ?hx (wA x) _ ?hc hu3 rfl (wA_info x) ?_; (case hx => rfl); (case hc => obtain ⟨g2, q, _, q2⟩ := work_at HJ.out.len HJ.out.kw HW0.out HWL.out; rw [HXX.out] at q2; obtain rfl : g = g2 := (by injection q with q; injection q); exact q2))) | ((with_reducible refine gate_store (t := 66) (p := 8) rfl ?_); go_loud (refine wpList_store_row rfl 66 _ _ rfl (w2.heap.size) (wA x) rfl rfl 66 _ (blk_new w2 (.cells #[.int .i64 0, .int .i64 0, .int .i64 0, .int .i64 0, .int .i64 0, .int .i64 0, .int .i64 0, .int .i64 0, .int .i64 0, .int .i64 0, .bool false, .int .i64 0, .int .i64 0, .bool false, .int .i64 0, .int .i64 0, .int .i64 0, .int .i64 0, .int .i64 0, .int .i64 0, .int .i64 0, .int .i64 0, .int .i64 0, .int .i64 0, .bool false, .int .i64 0] 66)) (wA_info x) rfl (wA_one x) ?_; have HX := Aside0.mk (show Rx B w _ b A0 c0 (some ⟨g, 0, none⟩) c nw e w2.heap.size (wA x) from ⟨(HJ.out.newrow #[.int .i64 0, .int .i64 0, .int .i64 0, .int .i64 0, .int .i64 0, .int .i64 0, .int .i64 0, .int .i64 0, .int .i64 0, .int .i64 0, .bool false, .int .i64 0, .int .i64 0, .bool false, .int .i64 0, .int .i64 0, .int .i64 0, .int .i64 0, .int .i64 0, .int .i64 0, .int .i64 0, .int .i64 0, .int .i64 0, .int .i64 0, .bool false, .int .i64 0] (wA x) 66).1, (HJ.out.newrow #[.int .i64 0, .int .i64 0, .int .i64 0, .int .i64 0, .int .i64 0, .int .i64 0, .int .i64 0, .int .i64 0, .int .i64 0, .int .i64 0, .bool false, .int .i64 0, .int .i64 0, .bool false, .int .i64 0, .int .i64 0, .int .i64 0, .int .i64 0, .int .i64 0, .int .i64 0, .int .i64 0, .int .i64 0, .int .i64 0, .int .i64 0, .bool false, .int .i64 0] (wA x) 66).2, blk_lt HJ.out.r, own_ne HJ.out.len HJ.out.kw HW0.out HWL.out⟩); clear hcb hce hlb hle hlr HJ)))
 refine gen_world' (fun W => Rx B w W b A0 c0 (some ⟨g, 0, none⟩) c nw e w2.heap.size (wA x)) (by exact HX.out) fun W3 H3 => ?_
 have HX := Aside0.mk H3
 clear H3 p0 q0
 have hcb := fun i => blk_cell HX.out.rh.b_ i
 have hce := fun i => blk_cell HX.out.rh.e_ i
 have hlb := blk_lt HX.out.rh.b_
 have hle := blk_lt HX.out.rh.e_
 have hlr := blk_lt HX.out.rh.r
 have hcx := fun i => (show World.cell? _ ⟨w2.heap.size, i, none⟩ = (#[.int .i64 x.f0.f0, .int .i64 x.f0.f1, .int .i64 x.f0.f2, .int .i64 x.f0.f3.f0, .int .i64 x.f0.f3.f1, .int .i64 x.f0.f4.f0, .int .i64 x.f0.f4.f1, .int .i64 x.f0.f5, .int .i64 x.f0.f6, .int .i64 x.f0.f7, .bool x.f0.f8, .int .i64 x.f0.f9, .int .i64 x.f1, .bool x.f2, .int .i64 x.f3.f0, .int .i64 x.f3.f1, .int .i64 x.f3.f2, .int .i64 x.f3.f3.f0, .int .i64 x.f3.f3.f1, .int .i64 x.f3.f4.f0, .int .i64 x.f3.f4.f1, .int .i64 x.f3.f5, .int .i64 x.f3.f6, .int .i64 x.f3.f7, .bool x.f3.f8, .int .i64 x.f3.f9] : Array Value)[i]? from blk_cell HX.out.x_ i)
 have hlx := blk_lt HX.out.x_
 go_wp2_with (first | (go_at_call 45; go_loud ((with_reducible refine (CD.out _ HX.out.rh).mono ?_); rintro r w5 ⟨A1, c1, rfl, hk1, hb⟩; have HX2 := Aside0.mk (HX.out.step hb); clear hcb hce hlb hle hlr hcx hlx HX; have HX := HX2; clear HX2; have hcb := fun i => blk_cell HX.out.rh.b_ i; have hce := fun i => blk_cell HX.out.rh.e_ i; have hlb := blk_lt HX.out.rh.b_; have hle := blk_lt HX.out.rh.e_; have hlr := blk_lt HX.out.rh.r; have hcx := fun i => (show World.cell? _ ⟨w2.heap.size, i, none⟩ = (#[.int .i64 x.f0.f0, .int .i64 x.f0.f1, .int .i64 x.f0.f2, .int .i64 x.f0.f3.f0, .int .i64 x.f0.f3.f1, .int .i64 x.f0.f4.f0, .int .i64 x.f0.f4.f1, .int .i64 x.f0.f5, .int .i64 x.f0.f6, .int .i64 x.f0.f7, .bool x.f0.f8, .int .i64 x.f0.f9, .int .i64 x.f1, .bool x.f2, .int .i64 x.f3.f0, .int .i64 x.f3.f1, .int .i64 x.f3.f2, .int .i64 x.f3.f3.f0, .int .i64 x.f3.f3.f1, .int .i64 x.f3.f4.f0, .int .i64 x.f3.f4.f1, .int .i64 x.f3.f5, .int .i64 x.f3.f6, .int .i64 x.f3.f7, .bool x.f3.f8, .int .i64 x.f3.f9] : Array Value)[i]? from blk_cell HX.out.x_ i); have hlx := blk_lt HX.out.x_; have HK1 := Aside0.mk hk1; clear hb hk1)) | ((with_reducible refine gate_store (t := 43) (p := 11) rfl ?_); go_loud (refine wpList_store_row rfl 43 _ _ rfl (w5.heap.size) #[.int .i64 clk1, .slice A1 L1.length c1] rfl rfl 43 _ (blk_new w5 (.cells #[.int .i64 0, .slice none 0 0] 43)) (by kernel_rfl) rfl (by simp [Value.oneCell']) ?_; have HT := Aside0.mk (HX.out.newrow #[.int .i64 0, .slice none 0 0] #[.int .i64 clk1, .slice A1 L1.length c1] 43).2; have HK2 := Aside0.mk (KR.keep (Kd.R_below HK1.out (below_alloc (Below.refl _ _) (.cells #[.int .i64 0, .slice none 0 0] 43))) (W1 := (w5.alloc (.cells #[.int .i64 0, .slice none 0 0] 43)).setRow w5.heap.size #[.int .i64 clk1, .slice A1 L1.length c1]) (fun g cs hg => setRow_other _ _ g _ (types_ne hg (blk_new w5 _) (by decide)))); clear HK1; have HK1 := HK2; clear HK2; have hct := fun i => blk_cell HT.out i; have hlt := blk_lt HT.out; have HX2 := Aside0.mk ((HX.out.newrow #[.int .i64 0, .slice none 0 0] #[.int .i64 clk1, .slice A1 L1.length c1] 43).1); clear hcb hce hlb hle hlr hcx hlx HX; have HX := HX2; clear HX2; have hcb := fun i => blk_cell HX.out.rh.b_ i; have hce := fun i => blk_cell HX.out.rh.e_ i; have hlb := blk_lt HX.out.rh.b_; have hle := blk_lt HX.out.rh.e_; have hlr := blk_lt HX.out.rh.r; have hcx := fun i => (show World.cell? _ ⟨w2.heap.size, i, none⟩ = (#[.int .i64 x.f0.f0, .int .i64 x.f0.f1, .int .i64 x.f0.f2, .int .i64 x.f0.f3.f0, .int .i64 x.f0.f3.f1, .int .i64 x.f0.f4.f0, .int .i64 x.f0.f4.f1, .int .i64 x.f0.f5, .int .i64 x.f0.f6, .int .i64 x.f0.f7, .bool x.f0.f8, .int .i64 x.f0.f9, .int .i64 x.f1, .bool x.f2, .int .i64 x.f3.f0, .int .i64 x.f3.f1, .int .i64 x.f3.f2, .int .i64 x.f3.f3.f0, .int .i64 x.f3.f3.f1, .int .i64 x.f3.f4.f0, .int .i64 x.f3.f4.f1, .int .i64 x.f3.f5, .int .i64 x.f3.f6, .int .i64 x.f3.f7, .bool x.f3.f8, .int .i64 x.f3.f9] : Array Value)[i]? from blk_cell HX.out.x_ i); have hlx := blk_lt HX.out.x_)) | ((with_reducible refine gate_store (t := 46) (p := 4) rfl ?_); go_loud (refine wpList_store_row rfl 46 _ _ rfl (w.heap.size + 1 + 1) #[.int .i64 b.m.clk, .slice A0 b.m.L.length c0, .slice (some ⟨g, 0, none⟩) nw c] rfl rfl 46 _ HX.out.rh.r (by kernel_rfl) rfl (by simp [Value.oneCell']) ?_; have HFIN := Aside0.mk (HX.out.rh.fin #[.int .i64 b.m.clk, .slice A0 b.m.L.length c0, .slice (some ⟨g, 0, none⟩) nw c] HX.out.rh.kr HX.out.rh.kw))))
 obtain ⟨hr9, hk9, hw9, hb9⟩ := HFIN.out
 unfold RhPost
 rw [HF.out]
 refine bodyPost_ret (v := .tuple #[.agg #[.int .i64 b.m.clk, .slice A0 b.m.L.length c0, .slice (some ⟨g, 0, none⟩) nw c], .int .i64 k1]) ?_ rfl ⟨A0, c0, some ⟨g, 0, none⟩, c, rfl, hk9, hw9, hb9, HLEN.out⟩
 have hrow := run_loadVar_row (P := Try.prog) _ (w.heap.size + 1 + 1) 46 46 _ (0, 0) _ hr9 hu0 rfl (by kernel_rfl)
 simp [results, Try.results28, asAddr, hrow]
theorem rhear_fire {w : World} {B : Nat} (b : Rb) (A0 : Option Addr) (c0 : Nat) (A : Option Addr) (c nw : Nat) (e : Au.Ev) (hn : b.m.L.length ≤ 90000) (nd : (b.m.L.map S127.h).Nodup) (hB : B ≤ w.heap.size) (hkr : KR w B (.slice A0 b.m.L.length c0) b.m.L) (hkw : KW w B (.slice A nw c) b.W) (hlen : b.W.length = nw) (hnw : nw ≤ 64) (hr : rightJ e = true) (hwl : e.wk < (nw : Int)) (hk : e.k = 4) (hi : (rd_T66 b.W e.wk).f0.f2 = 5) (ht : (rd_T66 b.W e.wk).f1 ≤ e.t) (hz : (rdoF b.m e).2 = 0) :
  Calls Try.prog 28 #[.agg #[.int .i64 b.m.clk, .slice A0 b.m.L.length c0, .slice A nw c], .agg (evA e)] w (RhPost B w nw (rhearF b e)) := by
 have hu0 := Try.underlying46
 have hu1 := Try.underlying36
 have hu2 := Try.underlying50
 have hu3 := Try.underlying66
 have hu4 := Try.underlying43
 have hu5 := Try.underlying44
 have HF := Aside0.mk (show rhearF b e = (⟨(rdoF b.m e).1, b.W⟩, 0) by unfold rhearF; rw [if_neg (by rw [hr, hlen]; simp; omega), if_neg (show ¬ e.k = 1 by omega), if_neg (show ¬ e.k = 2 by omega), if_neg (show ¬ e.k = 3 by omega), if_pos hk]; rw [if_pos ⟨hi, ht⟩]; unfold rcan; rw [if_pos hz, if_neg (show ¬ e.k = 3 by omega)])
 have h0 := right_wk hr
 have HW0 := Aside0.mk h0
 obtain ⟨g, rfl, _, _⟩ := work_at hlen hkw h0 hwl
 obtain ⟨x, hx⟩ : ∃ x, rd_T66 b.W e.wk = x := ⟨_, rfl⟩
 have HXX := Aside0.mk hx
 have p0 : (0 ≤ e.wk) = True := eq_true h0
 have q0 : (e.wk < (nw : Int)) = True := eq_true hwl
 have d0 : decide (e.wk ≥ (nw : Int)) = false := decide_eq_false (by omega)
 have HWL := Aside0.mk hwl
 have qk1 : (e.k == 1) = false := beq_eq_false_iff_ne.2 (by omega)
 have qk2 : (e.k == 2) = false := beq_eq_false_iff_ne.2 (by omega)
 have qk3 : (e.k == 3) = false := beq_eq_false_iff_ne.2 (by omega)
 have qk4 : (e.k == 4) = true := beq_iff_eq.2 hk
 rw [hx] at hi ht
 have i5 : (x.f0.f2 == 5) = true := beq_iff_eq.2 (hi)
 have t5 : decide (e.t ≥ x.f1) = true := decide_eq_true (ht)
 obtain ⟨⟨⟨clk1, L1⟩, k1⟩, hp⟩ : ∃ p, rdoF b.m e = p := ⟨_, rfl⟩
 have CD : Aside0 (∀ W, Rh B w W b A0 c0 (some ⟨g, 0, none⟩) c nw e → Calls Try.prog 45 #[.agg #[.int .i64 b.m.clk, .slice A0 b.m.L.length c0], .agg (evA e)] W fun r w' => ∃ A1 c1, r = .returned (.tuple #[.agg #[.int .i64 clk1, .slice A1 L1.length c1], .int .i64 k1]) ∧ KR w' B (.slice A1 L1.length c1) L1 ∧ Below W.heap.size W w') := ⟨fun W hW => do_lit (w := w) b.m A0 c0 e hn nd (Nat.le_trans hB hW.below.size) hW.kr hp⟩
 rw [hp] at hz HF
 have hzz : k1 = 0 := hz
 have kz : (k1 != 0) = false := by rw [hzz]; rfl
 have CR := Aside0.mk (fun W => rright_run e W)
 rw [hr] at CR
 have HN := Aside0.mk hn
 have HND := Aside0.mk nd
 have HB := Aside0.mk hB
 have HNW := Aside0.mk hnw
 have HLEN := Aside0.mk hlen
 have HRT := Aside0.mk hr
 have HJ := Aside0.mk (Rh.start hkr hkw hlen e)
 clear hn nd hB hkr hkw hlen hnw hr hwl hk hi ht hz
 have hcb := fun i => blk_cell HJ.out.b_ i
 have hce := fun i => blk_cell HJ.out.e_ i
 have hlb := blk_lt HJ.out.b_
 have hle := blk_lt HJ.out.e_
 have hlr := blk_lt HJ.out.r
 go_enter Try.func28, Try.ntmps28
 clear hp hzz
 clear hx h0
 go_upto_region 8 with (first | (go_at_call 62; (with_reducible refine (CR.out _).mono ?_); rintro r w2 ⟨rfl, hb⟩; have HJ2 := Aside0.mk (HJ.out.step hb); clear hcb hce hlb hle hlr HJ; have HJ := HJ2; clear HJ2; have hcb := fun i => blk_cell HJ.out.b_ i; have hce := fun i => blk_cell HJ.out.e_ i; have hlb := blk_lt HJ.out.b_; have hle := blk_lt HJ.out.e_; have hlr := blk_lt HJ.out.r; clear hb) | ((with_reducible refine Go.Proofs.Ythniclbmpeklmaa.Ev.gate_load (t := 66) (p := 43) rfl ?_); go_loud (refine wpList_load_at rfl 66 _ rfl g (e.wk.toNat * 26) ?hx (wA x) _ ?hc hu3 rfl (wA_info x) ?_; (case hx => rfl); (case hc => obtain ⟨g2, q, _, q2⟩ := work_at HJ.out.len HJ.out.kw HW0.out HWL.out; rw [HXX.out] at q2; obtain rfl : g = g2 := (by injection q with q; injection q); exact q2))) | ((with_reducible refine gate_store (t := 66) (p := 8) rfl ?_); go_loud (refine wpList_store_row rfl 66 _ _ rfl (w2.heap.size) (wA x) rfl rfl 66 _ (blk_new w2 (.cells #[.int .i64 0, .int .i64 0, .int .i64 0, .int .i64 0, .int .i64 0, .int .i64 0, .int .i64 0, .int .i64 0, .int .i64 0, .int .i64 0, .bool false, .int .i64 0, .int .i64 0, .bool false, .int .i64 0, .int .i64 0, .int .i64 0, .int .i64 0, .int .i64 0, .int .i64 0, .int .i64 0, .int .i64 0, .int .i64 0, .int .i64 0, .bool false, .int .i64 0] 66)) (wA_info x) rfl (wA_one x) ?_; have HX := Aside0.mk (show Rx B w _ b A0 c0 (some ⟨g, 0, none⟩) c nw e w2.heap.size (wA x) from ⟨(HJ.out.newrow #[.int .i64 0, .int .i64 0, .int .i64 0, .int .i64 0, .int .i64 0, .int .i64 0, .int .i64 0, .int .i64 0, .int .i64 0, .int .i64 0, .bool false, .int .i64 0, .int .i64 0, .bool false, .int .i64 0, .int .i64 0, .int .i64 0, .int .i64 0, .int .i64 0, .int .i64 0, .int .i64 0, .int .i64 0, .int .i64 0, .int .i64 0, .bool false, .int .i64 0] (wA x) 66).1, (HJ.out.newrow #[.int .i64 0, .int .i64 0, .int .i64 0, .int .i64 0, .int .i64 0, .int .i64 0, .int .i64 0, .int .i64 0, .int .i64 0, .int .i64 0, .bool false, .int .i64 0, .int .i64 0, .bool false, .int .i64 0, .int .i64 0, .int .i64 0, .int .i64 0, .int .i64 0, .int .i64 0, .int .i64 0, .int .i64 0, .int .i64 0, .int .i64 0, .bool false, .int .i64 0] (wA x) 66).2, blk_lt HJ.out.r, own_ne HJ.out.len HJ.out.kw HW0.out HWL.out⟩); clear hcb hce hlb hle hlr HJ)))
 refine gen_world' (fun W => Rx B w W b A0 c0 (some ⟨g, 0, none⟩) c nw e w2.heap.size (wA x)) (by exact HX.out) fun W3 H3 => ?_
 have HX := Aside0.mk H3
 clear H3 p0 q0
 have hcb := fun i => blk_cell HX.out.rh.b_ i
 have hce := fun i => blk_cell HX.out.rh.e_ i
 have hlb := blk_lt HX.out.rh.b_
 have hle := blk_lt HX.out.rh.e_
 have hlr := blk_lt HX.out.rh.r
 have hcx := fun i => (show World.cell? _ ⟨w2.heap.size, i, none⟩ = (#[.int .i64 x.f0.f0, .int .i64 x.f0.f1, .int .i64 x.f0.f2, .int .i64 x.f0.f3.f0, .int .i64 x.f0.f3.f1, .int .i64 x.f0.f4.f0, .int .i64 x.f0.f4.f1, .int .i64 x.f0.f5, .int .i64 x.f0.f6, .int .i64 x.f0.f7, .bool x.f0.f8, .int .i64 x.f0.f9, .int .i64 x.f1, .bool x.f2, .int .i64 x.f3.f0, .int .i64 x.f3.f1, .int .i64 x.f3.f2, .int .i64 x.f3.f3.f0, .int .i64 x.f3.f3.f1, .int .i64 x.f3.f4.f0, .int .i64 x.f3.f4.f1, .int .i64 x.f3.f5, .int .i64 x.f3.f6, .int .i64 x.f3.f7, .bool x.f3.f8, .int .i64 x.f3.f9] : Array Value)[i]? from blk_cell HX.out.x_ i)
 have hlx := blk_lt HX.out.x_
 go_wp2_with (first | (go_at_call 45; go_loud ((with_reducible refine (CD.out _ HX.out.rh).mono ?_); rintro r w5 ⟨A1, c1, rfl, hk1, hb⟩; have HX2 := Aside0.mk (HX.out.step hb); clear hcb hce hlb hle hlr hcx hlx HX; have HX := HX2; clear HX2; have hcb := fun i => blk_cell HX.out.rh.b_ i; have hce := fun i => blk_cell HX.out.rh.e_ i; have hlb := blk_lt HX.out.rh.b_; have hle := blk_lt HX.out.rh.e_; have hlr := blk_lt HX.out.rh.r; have hcx := fun i => (show World.cell? _ ⟨w2.heap.size, i, none⟩ = (#[.int .i64 x.f0.f0, .int .i64 x.f0.f1, .int .i64 x.f0.f2, .int .i64 x.f0.f3.f0, .int .i64 x.f0.f3.f1, .int .i64 x.f0.f4.f0, .int .i64 x.f0.f4.f1, .int .i64 x.f0.f5, .int .i64 x.f0.f6, .int .i64 x.f0.f7, .bool x.f0.f8, .int .i64 x.f0.f9, .int .i64 x.f1, .bool x.f2, .int .i64 x.f3.f0, .int .i64 x.f3.f1, .int .i64 x.f3.f2, .int .i64 x.f3.f3.f0, .int .i64 x.f3.f3.f1, .int .i64 x.f3.f4.f0, .int .i64 x.f3.f4.f1, .int .i64 x.f3.f5, .int .i64 x.f3.f6, .int .i64 x.f3.f7, .bool x.f3.f8, .int .i64 x.f3.f9] : Array Value)[i]? from blk_cell HX.out.x_ i); have hlx := blk_lt HX.out.x_; have HK1 := Aside0.mk hk1; clear hb hk1)) | ((with_reducible refine gate_store (t := 43) (p := 11) rfl ?_); go_loud (refine wpList_store_row rfl 43 _ _ rfl (w5.heap.size) #[.int .i64 clk1, .slice A1 L1.length c1] rfl rfl 43 _ (blk_new w5 (.cells #[.int .i64 0, .slice none 0 0] 43)) (by kernel_rfl) rfl (by simp [Value.oneCell']) ?_; have HT := Aside0.mk (HX.out.newrow #[.int .i64 0, .slice none 0 0] #[.int .i64 clk1, .slice A1 L1.length c1] 43).2; have HK2 := Aside0.mk (KR.keep (Kd.R_below HK1.out (below_alloc (Below.refl _ _) (.cells #[.int .i64 0, .slice none 0 0] 43))) (W1 := (w5.alloc (.cells #[.int .i64 0, .slice none 0 0] 43)).setRow w5.heap.size #[.int .i64 clk1, .slice A1 L1.length c1]) (fun g cs hg => setRow_other _ _ g _ (types_ne hg (blk_new w5 _) (by decide)))); clear HK1; have HK1 := HK2; clear HK2; have hct := fun i => blk_cell HT.out i; have hlt := blk_lt HT.out; have HX2 := Aside0.mk ((HX.out.newrow #[.int .i64 0, .slice none 0 0] #[.int .i64 clk1, .slice A1 L1.length c1] 43).1); clear hcb hce hlb hle hlr hcx hlx HX; have HX := HX2; clear HX2; have hcb := fun i => blk_cell HX.out.rh.b_ i; have hce := fun i => blk_cell HX.out.rh.e_ i; have hlb := blk_lt HX.out.rh.b_; have hle := blk_lt HX.out.rh.e_; have hlr := blk_lt HX.out.rh.r; have hcx := fun i => (show World.cell? _ ⟨w2.heap.size, i, none⟩ = (#[.int .i64 x.f0.f0, .int .i64 x.f0.f1, .int .i64 x.f0.f2, .int .i64 x.f0.f3.f0, .int .i64 x.f0.f3.f1, .int .i64 x.f0.f4.f0, .int .i64 x.f0.f4.f1, .int .i64 x.f0.f5, .int .i64 x.f0.f6, .int .i64 x.f0.f7, .bool x.f0.f8, .int .i64 x.f0.f9, .int .i64 x.f1, .bool x.f2, .int .i64 x.f3.f0, .int .i64 x.f3.f1, .int .i64 x.f3.f2, .int .i64 x.f3.f3.f0, .int .i64 x.f3.f3.f1, .int .i64 x.f3.f4.f0, .int .i64 x.f3.f4.f1, .int .i64 x.f3.f5, .int .i64 x.f3.f6, .int .i64 x.f3.f7, .bool x.f3.f8, .int .i64 x.f3.f9] : Array Value)[i]? from blk_cell HX.out.x_ i); have hlx := blk_lt HX.out.x_)) | ((with_reducible refine gate_store (t := 43) (p := 140) rfl ?_); go_loud (refine wpList_store_new rfl 43 _ _ rfl (w.heap.size) 0 #[.int .i64 clk1, .slice A1 L1.length c1] #[.int .i64 clk1, .slice A1 L1.length c1, .slice (some ⟨g, 0, none⟩) nw c] rfl rfl 46 _ HX.out.rh.b_ (by kernel_rfl) (by simp) (by simp [Value.oneCell']) rfl ?_; clear hct hlt HT; have HX2 := Aside0.mk (HX.out.put (m1 := ⟨clk1, L1⟩) HK1.out); clear hcb hce hlb hle hlr hcx hlx HX; have HX := HX2; clear HX2; have hcb := fun i => blk_cell HX.out.rh.b_ i; have hce := fun i => blk_cell HX.out.rh.e_ i; have hlb := blk_lt HX.out.rh.b_; have hle := blk_lt HX.out.rh.e_; have hlr := blk_lt HX.out.rh.r; have hcx := fun i => (show World.cell? _ ⟨w2.heap.size, i, none⟩ = (#[.int .i64 x.f0.f0, .int .i64 x.f0.f1, .int .i64 x.f0.f2, .int .i64 x.f0.f3.f0, .int .i64 x.f0.f3.f1, .int .i64 x.f0.f4.f0, .int .i64 x.f0.f4.f1, .int .i64 x.f0.f5, .int .i64 x.f0.f6, .int .i64 x.f0.f7, .bool x.f0.f8, .int .i64 x.f0.f9, .int .i64 x.f1, .bool x.f2, .int .i64 x.f3.f0, .int .i64 x.f3.f1, .int .i64 x.f3.f2, .int .i64 x.f3.f3.f0, .int .i64 x.f3.f3.f1, .int .i64 x.f3.f4.f0, .int .i64 x.f3.f4.f1, .int .i64 x.f3.f5, .int .i64 x.f3.f6, .int .i64 x.f3.f7, .bool x.f3.f8, .int .i64 x.f3.f9] : Array Value)[i]? from blk_cell HX.out.x_ i); have hlx := blk_lt HX.out.x_)) | ((with_reducible refine gate_store (t := 46) (p := 4) rfl ?_); go_loud (refine wpList_store_row rfl 46 _ _ rfl (w.heap.size + 1 + 1) #[.int .i64 clk1, .slice A1 L1.length c1, .slice (some ⟨g, 0, none⟩) nw c] rfl rfl 46 _ HX.out.rh.r (by kernel_rfl) rfl (by simp [Value.oneCell']) ?_; have HFIN := Aside0.mk (HX.out.rh.fin #[.int .i64 clk1, .slice A1 L1.length c1, .slice (some ⟨g, 0, none⟩) nw c] HX.out.rh.kr HX.out.rh.kw))))
 obtain ⟨hr9, hk9, hw9, hb9⟩ := HFIN.out
 unfold RhPost
 rw [HF.out]
 refine bodyPost_ret (v := .tuple #[.agg #[.int .i64 clk1, .slice A1 L1.length c1, .slice (some ⟨g, 0, none⟩) nw c], .int .i64 0]) ?_ rfl ⟨A1, c1, some ⟨g, 0, none⟩, c, rfl, hk9, hw9, hb9, HLEN.out⟩
 have hrow := run_loadVar_row (P := Try.prog) _ (w.heap.size + 1 + 1) 46 46 _ (0, 0) _ hr9 hu0 rfl (by kernel_rfl)
 simp [results, Try.results28, asAddr, hrow]
theorem rhear_point {w : World} {B : Nat} (b : Rb) (A0 : Option Addr) (c0 : Nat) (A : Option Addr) (c nw : Nat) (e : Au.Ev) (hn : b.m.L.length ≤ 90000) (nd : (b.m.L.map S127.h).Nodup) (hB : B ≤ w.heap.size) (hkr : KR w B (.slice A0 b.m.L.length c0) b.m.L) (hkw : KW w B (.slice A nw c) b.W) (hlen : b.W.length = nw) (hnw : nw ≤ 64) (hr : rightJ e = true) (hwl : e.wk < (nw : Int)) (hk : e.k = 3) (hpt : rptOk b.m.clk (rd_T66 b.W e.wk) e = true) (hxb : 0 ≤ (rd_T66 b.W e.wk).f1 ∧ (rd_T66 b.W e.wk).f1 ≤ 1000000) (hclk : b.m.clk ≤ 1000000) (htm : e.t ≤ 9223372036854775807) (hz : (rdoF b.m e).2 = 0) :
  Calls Try.prog 28 #[.agg #[.int .i64 b.m.clk, .slice A0 b.m.L.length c0, .slice A nw c], .agg (evA e)] w (RhPost B w nw (rhearF b e)) := by
 have hu0 := Try.underlying46
 have hu1 := Try.underlying36
 have hu2 := Try.underlying50
 have hu3 := Try.underlying66
 have hu4 := Try.underlying43
 have hu5 := Try.underlying44
 have HF := Aside0.mk (show rhearF b e = (⟨(rdoF b.m e).1, b.W.set e.wk.toNat { rd_T66 b.W e.wk with f2 := true, f3 := ofE e }⟩, 0) by unfold rhearF; rw [if_neg (by rw [hr, hlen]; simp; omega), if_neg (show ¬ e.k = 1 by omega), if_neg (show ¬ e.k = 2 by omega), if_pos hk]; rw [if_pos hpt]; unfold rcan; rw [if_pos hz, if_pos hk])
 have h0 := right_wk hr
 have HW0 := Aside0.mk h0
 obtain ⟨g, rfl, _, _⟩ := work_at hlen hkw h0 hwl
 obtain ⟨x, hx⟩ : ∃ x, rd_T66 b.W e.wk = x := ⟨_, rfl⟩
 have HXX := Aside0.mk hx
 have p0 : (0 ≤ e.wk) = True := eq_true h0
 have q0 : (e.wk < (nw : Int)) = True := eq_true hwl
 have d0 : decide (e.wk ≥ (nw : Int)) = false := decide_eq_false (by omega)
 have HWL := Aside0.mk hwl
 have qk1 : (e.k == 1) = false := beq_eq_false_iff_ne.2 (by omega)
 have qk2 : (e.k == 2) = false := beq_eq_false_iff_ne.2 (by omega)
 have qk3 : (e.k == 3) = true := beq_iff_eq.2 hk
 have qk4 : (e.k == 4) = false := beq_eq_false_iff_ne.2 (by omega)
 rw [hx] at hpt hxb HF
 have CP : Aside0 (∀ W, Rh B w W b A0 c0 (some ⟨g, 0, none⟩) c nw e → Calls Try.prog 64 #[.agg #[.int .i64 b.m.clk, .slice A0 b.m.L.length c0, .slice (some ⟨g, 0, none⟩) nw c], .agg (wA x), .agg (evA e)] W fun r w' => r = .returned (.bool true) ∧ Below W.heap.size W w') := ⟨fun W hW => by have q := rpoint_any b.m.clk A0 c0 b.m.L (some ⟨g, 0, none⟩) c b.W x e hW.kr (by rw [hlen]; exact hW.kw) hr hk hxb.1 hxb.2 hclk htm; rw [hlen, hpt] at q; exact q⟩
 obtain ⟨⟨⟨clk1, L1⟩, k1⟩, hp⟩ : ∃ p, rdoF b.m e = p := ⟨_, rfl⟩
 have CD : Aside0 (∀ W, Rh B w W b A0 c0 (some ⟨g, 0, none⟩) c nw e → Calls Try.prog 45 #[.agg #[.int .i64 b.m.clk, .slice A0 b.m.L.length c0], .agg (evA e)] W fun r w' => ∃ A1 c1, r = .returned (.tuple #[.agg #[.int .i64 clk1, .slice A1 L1.length c1], .int .i64 k1]) ∧ KR w' B (.slice A1 L1.length c1) L1 ∧ Below W.heap.size W w') := ⟨fun W hW => do_lit (w := w) b.m A0 c0 e hn nd (Nat.le_trans hB hW.below.size) hW.kr hp⟩
 have CW : Aside0 (∀ A1 c1 W, Rh B w W ⟨⟨clk1, L1⟩, b.W⟩ A1 c1 (some ⟨g, 0, none⟩) c nw e → Calls Try.prog 63 #[.agg #[.int .i64 clk1, .slice A1 L1.length c1, .slice (some ⟨g, 0, none⟩) nw c], .int .i64 e.wk, .agg (wA ⟨x.f0, x.f1, true, ofE e⟩)] W fun r w' => ∃ A2 c2, r = .returned (.agg #[.int .i64 clk1, .slice A1 L1.length c1, .slice A2 nw c2]) ∧ KW w' B (.slice A2 nw c2) (b.W.set e.wk.toNat ⟨x.f0, x.f1, true, ofE e⟩) ∧ Below W.heap.size W w') := ⟨fun A1 c1 W hW => with_lit clk1 A1 _ c1 (some ⟨g, 0, none⟩) c nw b.W hlen e.wk h0 hwl hnw ⟨x.f0, x.f1, true, ofE e⟩ hW.kw (Nat.le_trans hB hW.below.size)⟩
 rw [hp] at hz HF
 have hzz : k1 = 0 := hz
 have kz : (k1 != 0) = false := by rw [hzz]; rfl
 have CR := Aside0.mk (fun W => rright_run e W)
 rw [hr] at CR
 have HN := Aside0.mk hn
 have HND := Aside0.mk nd
 have HB := Aside0.mk hB
 have HNW := Aside0.mk hnw
 have HLEN := Aside0.mk hlen
 have HRT := Aside0.mk hr
 have HJ := Aside0.mk (Rh.start hkr hkw hlen e)
 clear hn nd hB hkr hkw hlen hnw hr hwl hk hpt hxb hclk htm hz
 have hcb := fun i => blk_cell HJ.out.b_ i
 have hce := fun i => blk_cell HJ.out.e_ i
 have hlb := blk_lt HJ.out.b_
 have hle := blk_lt HJ.out.e_
 have hlr := blk_lt HJ.out.r
 go_enter Try.func28, Try.ntmps28
 clear hp hzz
 clear hx h0
 go_upto_region 8 with (first | (go_at_call 62; (with_reducible refine (CR.out _).mono ?_); rintro r w2 ⟨rfl, hb⟩; have HJ2 := Aside0.mk (HJ.out.step hb); clear hcb hce hlb hle hlr HJ; have HJ := HJ2; clear HJ2; have hcb := fun i => blk_cell HJ.out.b_ i; have hce := fun i => blk_cell HJ.out.e_ i; have hlb := blk_lt HJ.out.b_; have hle := blk_lt HJ.out.e_; have hlr := blk_lt HJ.out.r; clear hb) | ((with_reducible refine Go.Proofs.Ythniclbmpeklmaa.Ev.gate_load (t := 66) (p := 43) rfl ?_); go_loud (refine wpList_load_at rfl 66 _ rfl g (e.wk.toNat * 26) ?hx (wA x) _ ?hc hu3 rfl (wA_info x) ?_; (case hx => rfl); (case hc => obtain ⟨g2, q, _, q2⟩ := work_at HJ.out.len HJ.out.kw HW0.out HWL.out; rw [HXX.out] at q2; obtain rfl : g = g2 := (by injection q with q; injection q); exact q2))) | ((with_reducible refine gate_store (t := 66) (p := 8) rfl ?_); go_loud (refine wpList_store_row rfl 66 _ _ rfl (w2.heap.size) (wA x) rfl rfl 66 _ (blk_new w2 (.cells #[.int .i64 0, .int .i64 0, .int .i64 0, .int .i64 0, .int .i64 0, .int .i64 0, .int .i64 0, .int .i64 0, .int .i64 0, .int .i64 0, .bool false, .int .i64 0, .int .i64 0, .bool false, .int .i64 0, .int .i64 0, .int .i64 0, .int .i64 0, .int .i64 0, .int .i64 0, .int .i64 0, .int .i64 0, .int .i64 0, .int .i64 0, .bool false, .int .i64 0] 66)) (wA_info x) rfl (wA_one x) ?_; have HX := Aside0.mk (show Rx B w _ b A0 c0 (some ⟨g, 0, none⟩) c nw e w2.heap.size (wA x) from ⟨(HJ.out.newrow #[.int .i64 0, .int .i64 0, .int .i64 0, .int .i64 0, .int .i64 0, .int .i64 0, .int .i64 0, .int .i64 0, .int .i64 0, .int .i64 0, .bool false, .int .i64 0, .int .i64 0, .bool false, .int .i64 0, .int .i64 0, .int .i64 0, .int .i64 0, .int .i64 0, .int .i64 0, .int .i64 0, .int .i64 0, .int .i64 0, .int .i64 0, .bool false, .int .i64 0] (wA x) 66).1, (HJ.out.newrow #[.int .i64 0, .int .i64 0, .int .i64 0, .int .i64 0, .int .i64 0, .int .i64 0, .int .i64 0, .int .i64 0, .int .i64 0, .int .i64 0, .bool false, .int .i64 0, .int .i64 0, .bool false, .int .i64 0, .int .i64 0, .int .i64 0, .int .i64 0, .int .i64 0, .int .i64 0, .int .i64 0, .int .i64 0, .int .i64 0, .int .i64 0, .bool false, .int .i64 0] (wA x) 66).2, blk_lt HJ.out.r, own_ne HJ.out.len HJ.out.kw HW0.out HWL.out⟩); clear hcb hce hlb hle hlr HJ)))
 refine gen_world' (fun W => Rx B w W b A0 c0 (some ⟨g, 0, none⟩) c nw e w2.heap.size (wA x)) (by exact HX.out) fun W3 H3 => ?_
 have HX := Aside0.mk H3
 clear H3 p0 q0
 have hcb := fun i => blk_cell HX.out.rh.b_ i
 have hce := fun i => blk_cell HX.out.rh.e_ i
 have hlb := blk_lt HX.out.rh.b_
 have hle := blk_lt HX.out.rh.e_
 have hlr := blk_lt HX.out.rh.r
 have hcx := fun i => (show World.cell? _ ⟨w2.heap.size, i, none⟩ = (#[.int .i64 x.f0.f0, .int .i64 x.f0.f1, .int .i64 x.f0.f2, .int .i64 x.f0.f3.f0, .int .i64 x.f0.f3.f1, .int .i64 x.f0.f4.f0, .int .i64 x.f0.f4.f1, .int .i64 x.f0.f5, .int .i64 x.f0.f6, .int .i64 x.f0.f7, .bool x.f0.f8, .int .i64 x.f0.f9, .int .i64 x.f1, .bool x.f2, .int .i64 x.f3.f0, .int .i64 x.f3.f1, .int .i64 x.f3.f2, .int .i64 x.f3.f3.f0, .int .i64 x.f3.f3.f1, .int .i64 x.f3.f4.f0, .int .i64 x.f3.f4.f1, .int .i64 x.f3.f5, .int .i64 x.f3.f6, .int .i64 x.f3.f7, .bool x.f3.f8, .int .i64 x.f3.f9] : Array Value)[i]? from blk_cell HX.out.x_ i)
 have hlx := blk_lt HX.out.x_
 go_upto_region 29 with (first | ((with_reducible refine Go.Proofs.Ythniclbmpeklmaa.Ev.gate_load (t := 66) (p := 8) rfl ?_); go_loud (refine wpList_load_row rfl 66 _ rfl (w2.heap.size) rfl 66 (wA x) (0, 0) _ HX.out.x_ hu3 rfl (wA_info _) ?_)) | (go_at_call 64; go_loud ((with_reducible refine (CP.out _ HX.out.rh).mono ?_); rintro r w4 ⟨rfl, hb⟩; have HX2 := Aside0.mk (HX.out.step hb); clear hcb hce hlb hle hlr hcx hlx HX; have HX := HX2; clear HX2; have hcb := fun i => blk_cell HX.out.rh.b_ i; have hce := fun i => blk_cell HX.out.rh.e_ i; have hlb := blk_lt HX.out.rh.b_; have hle := blk_lt HX.out.rh.e_; have hlr := blk_lt HX.out.rh.r; have hcx := fun i => (show World.cell? _ ⟨w2.heap.size, i, none⟩ = (#[.int .i64 x.f0.f0, .int .i64 x.f0.f1, .int .i64 x.f0.f2, .int .i64 x.f0.f3.f0, .int .i64 x.f0.f3.f1, .int .i64 x.f0.f4.f0, .int .i64 x.f0.f4.f1, .int .i64 x.f0.f5, .int .i64 x.f0.f6, .int .i64 x.f0.f7, .bool x.f0.f8, .int .i64 x.f0.f9, .int .i64 x.f1, .bool x.f2, .int .i64 x.f3.f0, .int .i64 x.f3.f1, .int .i64 x.f3.f2, .int .i64 x.f3.f3.f0, .int .i64 x.f3.f3.f1, .int .i64 x.f3.f4.f0, .int .i64 x.f3.f4.f1, .int .i64 x.f3.f5, .int .i64 x.f3.f6, .int .i64 x.f3.f7, .bool x.f3.f8, .int .i64 x.f3.f9] : Array Value)[i]? from blk_cell HX.out.x_ i); have hlx := blk_lt HX.out.x_; clear hb)) | (go_at_call 45; go_loud ((with_reducible refine (CD.out _ HX.out.rh).mono ?_); rintro r w5 ⟨A1, c1, rfl, hk1, hb⟩; have HX2 := Aside0.mk (HX.out.step hb); clear hcb hce hlb hle hlr hcx hlx HX; have HX := HX2; clear HX2; have hcb := fun i => blk_cell HX.out.rh.b_ i; have hce := fun i => blk_cell HX.out.rh.e_ i; have hlb := blk_lt HX.out.rh.b_; have hle := blk_lt HX.out.rh.e_; have hlr := blk_lt HX.out.rh.r; have hcx := fun i => (show World.cell? _ ⟨w2.heap.size, i, none⟩ = (#[.int .i64 x.f0.f0, .int .i64 x.f0.f1, .int .i64 x.f0.f2, .int .i64 x.f0.f3.f0, .int .i64 x.f0.f3.f1, .int .i64 x.f0.f4.f0, .int .i64 x.f0.f4.f1, .int .i64 x.f0.f5, .int .i64 x.f0.f6, .int .i64 x.f0.f7, .bool x.f0.f8, .int .i64 x.f0.f9, .int .i64 x.f1, .bool x.f2, .int .i64 x.f3.f0, .int .i64 x.f3.f1, .int .i64 x.f3.f2, .int .i64 x.f3.f3.f0, .int .i64 x.f3.f3.f1, .int .i64 x.f3.f4.f0, .int .i64 x.f3.f4.f1, .int .i64 x.f3.f5, .int .i64 x.f3.f6, .int .i64 x.f3.f7, .bool x.f3.f8, .int .i64 x.f3.f9] : Array Value)[i]? from blk_cell HX.out.x_ i); have hlx := blk_lt HX.out.x_; have HK1 := Aside0.mk hk1; clear hb hk1)) | ((with_reducible refine gate_store (t := 43) (p := 11) rfl ?_); go_loud (refine wpList_store_row rfl 43 _ _ rfl (w5.heap.size) #[.int .i64 clk1, .slice A1 L1.length c1] rfl rfl 43 _ (blk_new w5 (.cells #[.int .i64 0, .slice none 0 0] 43)) (by kernel_rfl) rfl (by simp [Value.oneCell']) ?_; have HT := Aside0.mk (HX.out.newrow #[.int .i64 0, .slice none 0 0] #[.int .i64 clk1, .slice A1 L1.length c1] 43).2; have HK2 := Aside0.mk (KR.keep (Kd.R_below HK1.out (below_alloc (Below.refl _ _) (.cells #[.int .i64 0, .slice none 0 0] 43))) (W1 := (w5.alloc (.cells #[.int .i64 0, .slice none 0 0] 43)).setRow w5.heap.size #[.int .i64 clk1, .slice A1 L1.length c1]) (fun g cs hg => setRow_other _ _ g _ (types_ne hg (blk_new w5 _) (by decide)))); clear HK1; have HK1 := HK2; clear HK2; have hct := fun i => blk_cell HT.out i; have hlt := blk_lt HT.out; have HX2 := Aside0.mk ((HX.out.newrow #[.int .i64 0, .slice none 0 0] #[.int .i64 clk1, .slice A1 L1.length c1] 43).1); clear hcb hce hlb hle hlr hcx hlx HX; have HX := HX2; clear HX2; have hcb := fun i => blk_cell HX.out.rh.b_ i; have hce := fun i => blk_cell HX.out.rh.e_ i; have hlb := blk_lt HX.out.rh.b_; have hle := blk_lt HX.out.rh.e_; have hlr := blk_lt HX.out.rh.r; have hcx := fun i => (show World.cell? _ ⟨w2.heap.size, i, none⟩ = (#[.int .i64 x.f0.f0, .int .i64 x.f0.f1, .int .i64 x.f0.f2, .int .i64 x.f0.f3.f0, .int .i64 x.f0.f3.f1, .int .i64 x.f0.f4.f0, .int .i64 x.f0.f4.f1, .int .i64 x.f0.f5, .int .i64 x.f0.f6, .int .i64 x.f0.f7, .bool x.f0.f8, .int .i64 x.f0.f9, .int .i64 x.f1, .bool x.f2, .int .i64 x.f3.f0, .int .i64 x.f3.f1, .int .i64 x.f3.f2, .int .i64 x.f3.f3.f0, .int .i64 x.f3.f3.f1, .int .i64 x.f3.f4.f0, .int .i64 x.f3.f4.f1, .int .i64 x.f3.f5, .int .i64 x.f3.f6, .int .i64 x.f3.f7, .bool x.f3.f8, .int .i64 x.f3.f9] : Array Value)[i]? from blk_cell HX.out.x_ i); have hlx := blk_lt HX.out.x_)) | ((with_reducible refine gate_store (t := 43) (p := 140) rfl ?_); go_loud (refine wpList_store_new rfl 43 _ _ rfl (w.heap.size) 0 #[.int .i64 clk1, .slice A1 L1.length c1] #[.int .i64 clk1, .slice A1 L1.length c1, .slice (some ⟨g, 0, none⟩) nw c] rfl rfl 46 _ HX.out.rh.b_ (by kernel_rfl) (by simp) (by simp [Value.oneCell']) rfl ?_; clear hct hlt HT; have HX2 := Aside0.mk (HX.out.put (m1 := ⟨clk1, L1⟩) HK1.out); clear hcb hce hlb hle hlr hcx hlx HX; have HX := HX2; clear HX2; have hcb := fun i => blk_cell HX.out.rh.b_ i; have hce := fun i => blk_cell HX.out.rh.e_ i; have hlb := blk_lt HX.out.rh.b_; have hle := blk_lt HX.out.rh.e_; have hlr := blk_lt HX.out.rh.r; have hcx := fun i => (show World.cell? _ ⟨w2.heap.size, i, none⟩ = (#[.int .i64 x.f0.f0, .int .i64 x.f0.f1, .int .i64 x.f0.f2, .int .i64 x.f0.f3.f0, .int .i64 x.f0.f3.f1, .int .i64 x.f0.f4.f0, .int .i64 x.f0.f4.f1, .int .i64 x.f0.f5, .int .i64 x.f0.f6, .int .i64 x.f0.f7, .bool x.f0.f8, .int .i64 x.f0.f9, .int .i64 x.f1, .bool x.f2, .int .i64 x.f3.f0, .int .i64 x.f3.f1, .int .i64 x.f3.f2, .int .i64 x.f3.f3.f0, .int .i64 x.f3.f3.f1, .int .i64 x.f3.f4.f0, .int .i64 x.f3.f4.f1, .int .i64 x.f3.f5, .int .i64 x.f3.f6, .int .i64 x.f3.f7, .bool x.f3.f8, .int .i64 x.f3.f9] : Array Value)[i]? from blk_cell HX.out.x_ i); have hlx := blk_lt HX.out.x_)))
 have hfx := fun i => blk_frozen HX.out.x_ i
 go_upto_region 30 with (fail)
 have HX2 := Aside0.mk (HX.out.mark 13 (.bool true) (cs1 := wA ⟨x.f0, x.f1, true, x.f3⟩) rfl)
 clear hcx hlx hfx hcb hce hlb hle hlr HX
 have HX := HX2
 clear HX2
 have hcb := fun i => blk_cell HX.out.rh.b_ i
 have hce := fun i => blk_cell HX.out.rh.e_ i
 have hlb := blk_lt HX.out.rh.b_
 have hle := blk_lt HX.out.rh.e_
 have hlr := blk_lt HX.out.rh.r
 go_wp2_with (first | ((with_reducible refine gate_store (t := 50) (p := 146) rfl ?_); go_loud (refine wpList_store_new rfl 50 _ _ rfl (w2.heap.size) 14 (evA e) (wA ⟨x.f0, x.f1, true, ofE e⟩) rfl rfl 66 (wA ⟨x.f0, x.f1, true, x.f3⟩) HX.out.x_ (by kernel_rfl) (by rw [wA_size]; show 14 + 12 ≤ 26; omega) (by simp [Value.oneCell']) rfl ?_; have HX2 := Aside0.mk (HX.out.row (wA ⟨x.f0, x.f1, true, ofE e⟩)); clear hcb hce hlb hle hlr HX; have HX := HX2; clear HX2; have hcb := fun i => blk_cell HX.out.rh.b_ i; have hce := fun i => blk_cell HX.out.rh.e_ i; have hlb := blk_lt HX.out.rh.b_; have hle := blk_lt HX.out.rh.e_; have hlr := blk_lt HX.out.rh.r)) | ((with_reducible refine Go.Proofs.Ythniclbmpeklmaa.Ev.gate_load (t := 66) (p := 8) rfl ?_); go_loud (refine wpList_load_row rfl 66 _ rfl (w2.heap.size) rfl 66 (wA ⟨x.f0, x.f1, true, ofE e⟩) (0, 0) _ HX.out.x_ hu3 rfl (wA_info _) ?_)) | (go_at_call 63; go_loud ((with_reducible refine (CW.out _ _ _ HX.out.rh).mono ?_); rintro r w6 ⟨A2, c2, rfl, hk2, hb⟩; have HX2 := Aside0.mk (HX.out.step hb); clear hcb hce hlb hle hlr HX; have HX := HX2; clear HX2; have hcb := fun i => blk_cell HX.out.rh.b_ i; have hce := fun i => blk_cell HX.out.rh.e_ i; have hlb := blk_lt HX.out.rh.b_; have hle := blk_lt HX.out.rh.e_; have hlr := blk_lt HX.out.rh.r; have HK2 := Aside0.mk hk2; clear hb hk2)) | ((with_reducible refine gate_store (t := 46) (p := 2) rfl ?_); go_loud (refine wpList_store_row rfl 46 _ _ rfl (w.heap.size) #[.int .i64 clk1, .slice A1 L1.length c1, .slice A2 nw c2] rfl rfl 46 _ HX.out.rh.b_ (by kernel_rfl) rfl (by simp [Value.oneCell']) ?_; have HPUT := Aside0.mk (HX.out.rh.put (b1 := ⟨⟨clk1, L1⟩, b.W.set e.wk.toNat ⟨x.f0, x.f1, true, ofE e⟩⟩) HX.out.rh.kr HK2.out (by rw [List.length_set]; exact HLEN.out)); clear hcb hce hlb hle hlr HX HK2; have hcb := fun i => blk_cell HPUT.out.b_ i; have hce := fun i => blk_cell HPUT.out.e_ i; have hlb := blk_lt HPUT.out.b_; have hle := blk_lt HPUT.out.e_; have hlr := blk_lt HPUT.out.r)) | ((with_reducible refine gate_store (t := 46) (p := 4) rfl ?_); go_loud (refine wpList_store_row rfl 46 _ _ rfl (w.heap.size + 1 + 1) #[.int .i64 clk1, .slice A1 L1.length c1, .slice A2 nw c2] rfl rfl 46 _ HPUT.out.r (by kernel_rfl) rfl (by simp [Value.oneCell']) ?_; have HFIN := Aside0.mk (HPUT.out.fin #[.int .i64 clk1, .slice A1 L1.length c1, .slice A2 nw c2] HPUT.out.kr HPUT.out.kw))))
 obtain ⟨hr9, hk9, hw9, hb9⟩ := HFIN.out
 unfold RhPost
 rw [HF.out]
 refine bodyPost_ret (v := .tuple #[.agg #[.int .i64 clk1, .slice A1 L1.length c1, .slice A2 nw c2], .int .i64 0]) ?_ rfl ⟨A1, c1, A2, c2, rfl, hk9, hw9, hb9, (by rw [List.length_set]; exact HLEN.out)⟩
 have hrow := run_loadVar_row (P := Try.prog) _ (w.heap.size + 1 + 1) 46 46 _ (0, 0) _ hr9 hu0 rfl (by kernel_rfl)
 simp [results, Try.results28, asAddr, hrow]
end Go.Proofs.Ythniclbmpeklmaa.KJf
end
section
namespace Go.Proofs.Ythniclbmpeklmaa.KJf
open Go.RowKit Go.Proofs.YthniclbmpeklmaaW.PrintWords Go.Proofs.YthniclbmpeklmaaW.PrintLast Go.Proofs.YthniclbmpeklmaaW.PrintMore Go.Proofs.Ythniclbmpeklmaa.Ju
open Go.Proofs.Ythniclbmpeklmaa.Au (evA types_ne RowIs)
open Go.Proofs.YthniclbmpeklmaaW.PrintWords renaming Ev → PE
set_option linter.unusedVariables false
set_option linter.unusedSimpArgs false
attribute [local go_sem high] eqA36
theorem rhear_any {w : World} {B : Nat} (b : Rb) (A0 : Option Addr) (c0 : Nat) (A : Option Addr) (c nw : Nat) (e : Au.Ev) (hn : b.m.L.length ≤ 90000) (nd : (b.m.L.map S127.h).Nodup) (hB : B ≤ w.heap.size) (hkr : KR w B (.slice A0 b.m.L.length c0) b.m.L) (hkw : KW w B (.slice A nw c) b.W) (hlen : b.W.length = nw) (hnw : nw ≤ 64) (hbeg : ∀ x ∈ b.W, 0 ≤ x.f1 ∧ x.f1 ≤ 1000000) (hclk : b.m.clk ≤ 1000000) (htm : e.t ≤ 9223372036854775807) :
  Calls Try.prog 28 #[.agg #[.int .i64 b.m.clk, .slice A0 b.m.L.length c0, .slice A nw c], .agg (evA e)] w (RhPost B w nw (rhearF b e)) := by
 cases hr : rightJ e with
 | false => exact rhear_wrong b A0 c0 A c nw e hn nd hB hkr hkw hlen hnw hr
 | true =>
  by_cases hwk : (b.W.length : Int) ≤ e.wk
  ·exact rhear_worker b A0 c0 A c nw e hn nd hB hkr hkw hlen hnw hr hwk
  have hwl : e.wk < (nw : Int) := by omega
  have h0 := right_wk hr
  have hxb : 0 ≤ (rd_T66 b.W e.wk).f1 ∧ (rd_T66 b.W e.wk).f1 ≤ 1000000 := by
   obtain ⟨x, _, hx, hm⟩ := rd_at6 h0 (by omega : e.wk < (b.W.length : Int))
   rw [hx]
   exact hbeg x hm
  rcases right_k hr with hk | hk | hk | hk | hk
  ·exact rhear_tick b A0 c0 A c nw e hn nd hB hkr hkw hlen hnw hr hwl hk
  ·by_cases hi : (rd_T66 b.W e.wk).f0.f2 = 0
   ·exact rhear_invoke b A0 c0 A c nw e hn nd hB hkr hkw hlen hnw hr hwl hk hi
   ·exact rhear_invoke_busy b A0 c0 A c nw e hn nd hB hkr hkw hlen hnw hr hwl hk hi
  ·cases hpt : rptOk b.m.clk (rd_T66 b.W e.wk) e with
   | false => exact rhear_point_no b A0 c0 A c nw e hn nd hB hkr hkw hlen hnw hr hwl hk hpt hxb hclk htm
   | true =>
    by_cases hz : (rdoF b.m e).2 = 0
    ·exact rhear_point b A0 c0 A c nw e hn nd hB hkr hkw hlen hnw hr hwl hk hpt hxb hclk htm hz
    ·exact rhear_point_fail b A0 c0 A c nw e hn nd hB hkr hkw hlen hnw hr hwl hk hpt hxb hclk htm hz
  ·by_cases hi : (rd_T66 b.W e.wk).f0.f2 = 5
   ·by_cases ht : (rd_T66 b.W e.wk).f1 ≤ e.t
    ·by_cases hz : (rdoF b.m e).2 = 0
     ·exact rhear_fire b A0 c0 A c nw e hn nd hB hkr hkw hlen hnw hr hwl hk hi ht hz
     ·exact rhear_fire_fail b A0 c0 A c nw e hn nd hB hkr hkw hlen hnw hr hwl hk hi ht hz
    ·exact rhear_fire_early b A0 c0 A c nw e hn nd hB hkr hkw hlen hnw hr hwl hk hi ht
   ·exact rhear_fire_op b A0 c0 A c nw e hn nd hB hkr hkw hlen hnw hr hwl hk hi
  ·by_cases ho : (rd_T66 b.W e.wk).f0.f2 = e.op
   ·by_cases h4 : e.op ≤ 4
    ·cases hp : (rd_T66 b.W e.wk).f2 with
     | false => exact rhear_back_un b A0 c0 A c nw e hn nd hB hkr hkw hlen hnw hr hwl hk ho h4 hp
     | true =>
      cases hq : ((rd_T66 b.W e.wk).f3.f4.f0 == e.nn && (rd_T66 b.W e.wk).f3.f4.f1 == e.ng) with
      | false => exact rhear_back_new b A0 c0 A c nw e hn nd hB hkr hkw hlen hnw hr hwl hk ho h4 hp hq
      | true =>
       cases hy : ((rd_T66 b.W e.wk).f3.f8 == e.y) with
       | false => exact rhear_back_yes b A0 c0 A c nw e hn nd hB hkr hkw hlen hnw hr hwl hk ho h4 hp hq hy
       | true =>
        cases hz : ((rd_T66 b.W e.wk).f3.f9 == e.er) with
        | false => exact rhear_back_err b A0 c0 A c nw e hn nd hB hkr hkw hlen hnw hr hwl hk ho h4 hp hq hy hz
        | true => exact rhear_back b A0 c0 A c nw e hn nd hB hkr hkw hlen hnw hr hwl hk ho h4 hp hq hy hz
    ·exact rhear_back_hi b A0 c0 A c nw e hn nd hB hkr hkw hlen hnw hr hwl hk ho h4
   ·by_cases h4 : e.op ≤ 4
    ·exact rhear_back_op_lo b A0 c0 A c nw e hn nd hB hkr hkw hlen hnw hr hwl hk ho h4
    ·exact rhear_back_op_hi b A0 c0 A c nw e hn nd hB hkr hkw hlen hnw hr hwl hk ho h4
structure Lr (w W : World) (nb : Nat) (r : Rb) (A0 : Option Addr) (c0 : Nat) (A : Option Addr) (c nw : Nat) : Prop where
 bel : Below w.heap.size w W
 b_ : W.heap[nb]? = some (.cells #[.int .i64 r.m.clk, .slice A0 r.m.L.length c0, .slice A nw c] 46 (0, 0))
 lt : w.heap.size ≤ nb
 kr : KR W w.heap.size (.slice A0 r.m.L.length c0) r.m.L
 kw : KW W w.heap.size (.slice A nw c) r.W
 len : r.W.length = nw
section
variable {w W W1 : World} {nb : Nat} {r : Rb} {A0 : Option Addr} {c0 : Nat} {A : Option Addr} {c nw : Nat}
theorem Lr.step (h : Lr w W nb r A0 c0 A c nw) (hb : Below W.heap.size W W1) : Lr w W1 nb r A0 c0 A c nw := ⟨below_step h.bel hb, blk_below h.b_ hb, h.lt, Kd.R_below h.kr hb, Kd.R_below h.kw hb, h.len⟩
theorem Lr.drew (h : Lr w W nb r A0 c0 A c nw) : Lr w W.drew nb r A0 c0 A c nw := h.step (below_drew (Below.refl _ _))
theorem Lr.put (h : Lr w W nb r A0 c0 A c nw) {r1 : Rb} {A01 A2 : Option Addr} {c01 c2 : Nat} (hr : KR W w.heap.size (.slice A01 r1.m.L.length c01) r1.m.L) (hw : KW W w.heap.size (.slice A2 nw c2) r1.W) (hl : r1.W.length = nw) : Lr w (((W.setCell ⟨nb, 0, none⟩ (.int .i64 r1.m.clk)).setCell ⟨nb, 1, none⟩ (.slice A01 r1.m.L.length c01)).setCell ⟨nb, 2, none⟩ (.slice A2 nw c2)) nb r1 A01 c01 A2 c2 nw := by
 have far : ∀ k, k ≠ nb → ((((W.setCell ⟨nb, 0, none⟩ (.int .i64 r1.m.clk)).setCell ⟨nb, 1, none⟩ (.slice A01 r1.m.L.length c01)).setCell ⟨nb, 2, none⟩ (.slice A2 nw c2))).heap[k]? = W.heap[k]? := fun k hk => ((Below.heap_setCell _ _ _ _ hk).trans (Below.heap_setCell _ _ _ _ hk)).trans (Below.heap_setCell _ _ _ _ hk)
 exact ⟨below_set (below_set (below_set h.bel h.lt) h.lt) h.lt, blk_put (blk_put (blk_put h.b_ 0 _ rfl) 1 _ rfl) 2 _ rfl, h.lt, hr.keep fun g cs hg => far g (types_ne hg h.b_ (by decide)), KW.keep hw fun g cs hg => far g (types_ne hg h.b_ (by decide)), hl⟩
end
def rjR.T7 : Bool × List (List Nat × List Nat) := (true, [([], []), ([], []), ([], []), ([1, 2], [1, 2]), ([3], [3]), ([0, 4], [0, 4]), ([5], [5]), ([6], [6]), ([6], [6]), ([7, 5, 0, 1, 2, 3, 4, 5, 6, 7], [7]), ([8, 9, 0, 1, 2, 3, 4, 5, 6, 7, 8, 9], [8])])
def rjR.B7 : List Nat := [0, 0, 0, 6, 14, 31, 63, 127, 127, 255, 1023]
theorem rjR.tab7 : rtab .any (opsOf Try.f38 7) = rjR.T7 := by kernel_rfl
theorem rjR.bits7 : waitsOk rjR.T7.2 rjR.B7 = true := by kernel_rfl
theorem new_lit (nw : Nat) (h1 : 1 ≤ nw) (h64 : nw ≤ 64) (w : World) : Calls Try.prog 27 #[.int .i64 nw] w fun r w' => ∃ A0 c0 A c, r = .returned (.tuple #[.agg #[.int .i64 0, .slice A0 0 c0, .slice A nw c], .int .i64 0]) ∧ KR w' w.heap.size (.slice A0 0 c0) [] ∧ KW w' w.heap.size (.slice A nw c) (List.replicate nw z66) ∧ Below w.heap.size w w' := by
 refine (knellref13_New.calls nw 0 [] (List.replicate nw z66) 0 w ?_).mono ?_
 ·unfold knellref13_New.f
  rw [if_neg (by omega), if_neg (by omega), if_pos (by omega), if_pos (by omega), Int.toNat_natCast]
 ·rintro r w' ⟨v1, v2, h0, h2, h3, h4⟩
  obtain ⟨A0, c0, rfl⟩ := Kd.R_slice h2
  obtain ⟨A, c, e⟩ := Kd.R_slice h3
  rw [List.length_replicate] at e
  subst e
  exact ⟨A0, c0, A, c, h0, h2, h3, h4⟩
theorem new_no (n : Int) (hb : n < 1 ∨ 64 < n) (w : World) : Calls Try.prog 27 #[.int .i64 n] w fun r w' => ∃ A0 c0 A c, r = .returned (.tuple #[.agg #[.int .i64 0, .slice A0 0 c0, .slice A 0 c], .int .i64 1]) ∧ Below w.heap.size w w' := by
 refine (knellref13_New.calls n 0 [] [] 1 w ?_).mono ?_
 ·unfold knellref13_New.f
  by_cases h : n < 1
  ·rw [if_pos h]
  ·rw [if_neg h, if_pos (by omega)]
 ·rintro r w' ⟨v1, v2, h0, h2, h3, h4⟩
  obtain ⟨A0, c0, rfl⟩ := Kd.R_slice h2
  obtain ⟨A, c, rfl⟩ := Kd.R_slice h3
  exact ⟨A0, c0, A, c, h0, h4⟩
theorem below_drew_ {W : World} {a : Addr} {v : Value} (h : W.cell? a = some v) : W.drew.cell? a = some v := pw_cell_below (below_drew (Below.refl W.heap.size W)) h
theorem sim0 (nw : Nat) : BSim 0 (be0 nw) ⟨⟨0, []⟩, List.replicate nw z66⟩ :=
 ⟨by simp [be0], Sim0, fun i x hx => by
  have : x ∈ List.replicate nw z66 := List.mem_of_getElem? hx
  rw [(List.mem_replicate.1 this).2]
  rfl, Int.le_refl _, by simp, by simp, fun x hx => by rw [(List.mem_replicate.1 hx).2]; exact ⟨Int.le_refl _, Int.le_refl _⟩⟩
theorem lr_start {w w2 : World} {A0 A : Option Addr} {c0 c nw : Nat} (hb : Below w.heap.size w w2) (hk : KR w2 w.heap.size (.slice A0 0 c0) []) (hw : KW w2 w.heap.size (.slice A nw c) (List.replicate nw z66)) : Lr w ((w2.alloc (.cells #[.int .i64 0, .slice none 0 0, .slice none 0 0] 46)).setRow w2.heap.size #[.int .i64 0, .slice A0 0 c0, .slice A nw c]) w2.heap.size ⟨⟨0, []⟩, List.replicate nw z66⟩ A0 c0 A c nw := by
 have hb3 : Below w2.heap.size w2 ((w2.alloc (.cells #[.int .i64 0, .slice none 0 0, .slice none 0 0] 46)).setRow w2.heap.size #[.int .i64 0, .slice A0 0 c0, .slice A nw c]) := below_setRow (below_alloc (Below.refl _ _) _) (Nat.le_refl _) _
 exact ⟨below_step hb hb3, setRow_heap _ _ _ _ _ _ (blk_new w2 _), hb.size, Kd.R_below hk hb3, Kd.R_below hw hb3, by simp⟩
set_option maxHeartbeats 4000000 in
set_option maxRecDepth 100000 in
theorem rjudge_yes (A1 : Option Addr) (c1 nw : Nat) (h1 : 1 ≤ nw) (h64 : nw ≤ 64) (l : List Au.Ev) (hn : l.length ≤ 1000) (w : World) (hin : ∀ (i : Nat) e, l[i]? = some e → EvIn w A1 i e) (hwf : ∀ e ∈ l, (Lit.int .i64 e.hg).wf = true ∧ e.t ≤ 9223372036854775807) :
  Calls Try.prog 38 #[.slice A1 l.length c1, .int .i64 nw] w fun r w' => r = .returned (.tuple #[.int .i64 (judgeF l nw).1, .int .i64 (judgeF l nw).2]) ∧ Below w.heap.size w w' := by
 have hu0 := Try.underlying46
 have hu2 := Try.underlying50
 have hu4 := Try.underlying22
 have HIN := Aside0.mk hin
 have HWF := Aside0.mk hwf
 have HN := Aside0.mk hn
 have H1 := Aside0.mk h1
 have H64 := Aside0.mk h64
 have CN := Aside0.mk (new_lit nw h1 h64 w)
 have HNW := Aside0.mk (show ¬ ((nw : Int) < 1 ∨ 64 < (nw : Int)) by omega)
 clear hin hwf hn h1 h64
 go_enter Try.func38, Try.ntmps38
 go_upto_region 5 with (first | (go_at_call 27; go_loud (with_reducible refine CN.out.mono ?_; rintro rr w2 ⟨A0, c0, A, c, rfl, hk1, hw1, hb⟩; have HB2 := Aside0.mk hb; have HK1 := Aside0.mk hk1; have HW1 := Aside0.mk hw1; clear hb hk1 hw1)) | ((with_reducible refine gate_store (t := 46) (p := 6) rfl ?_); go_loud (refine wpList_store_row rfl 46 _ _ rfl (w2.heap.size) #[.int .i64 0, .slice A0 0 c0, .slice A nw c] rfl rfl 46 _ (blk_new w2 (.cells #[.int .i64 0, .slice none 0 0, .slice none 0 0] 46)) (by kernel_rfl) rfl (by simp [Value.oneCell']) ?_; have HP := Aside0.mk (lr_start HB2.out HK1.out HW1.out); clear HB2 HK1 HW1)))
 have HJ0 : Aside0 (∃ r A0 c0 A c, Lr w _ w2.heap.size r A0 c0 A c nw ∧ BSim 0 (benchF (be0 nw) (l.take 0)) r ∧ goF (be0 nw) (l.take 0) = none) := ⟨⟨_, _, _, _, _, HP.out, sim0 nw, rfl⟩⟩
 clear HP
 generalize w2.heap.size = nb at HJ0 ⊢
 go_loopw [8] (fun i wr => ∃ k : Nat, k ≤ l.length ∧ i = .int .i64 k ∧ Aside0 (∃ r A0 c0 A c, Lr w wr nb r A0 c0 A c nw ∧ BSim k (benchF (be0 nw) (l.take k)) r ∧ goF (be0 nw) (l.take k) = none)) (fun i _ => l.length - (intOf i).toNat)
 case atStart => exact ⟨0, by omega, rfl, HJ0⟩
 case round =>
  clear HJ0
  obtain ⟨k, hk, rfl, HI0⟩ := hrel
  rcases Nat.lt_or_ge k l.length with hlt | hge
  ·obtain ⟨r, A0, c0, A, c, hi⟩ := HI0.out
   have HI := Aside0.mk hi
   clear hi HI0
   have p0 : (0 : Int) ≤ (k : Int) := by omega
   have q0 : (k : Int) < (l.length : Int) := by omega
   obtain ⟨e, he⟩ : ∃ e, l[k]? = some e := ⟨_, List.getElem?_eq_getElem hlt⟩
   have HE := Aside0.mk he
   have HW := Aside0.mk (HWF.out e (Go.Proofs.Ythniclbmpeklmaa.Au.get_mem he))
   obtain ⟨ad, rfl, d0, d1, d2, d3, d4, d5, d6, d7, d8, d9, d10, d11⟩ := (HIN.out k e he).below HI.out.1.bel
   have hnn : wrap64 ((k : Int) + 1) = ((k + 1 : Nat) : Int) := by have := HN.out; unfold wrap64; omega
   obtain ⟨⟨r1, cc⟩, hrr⟩ : ∃ p, rhearF r e = p := ⟨_, rfl⟩
   have HST := Aside0.mk (BSim.step HI.out.2.1 (by have := HN.out; omega) e HW.out.1 HW.out.2)
   rw [hrr] at HST
   have CH : Aside0 (∀ W, Lr w W nb r A0 c0 A c nw → Calls Try.prog 28 #[.agg #[.int .i64 r.m.clk, .slice A0 r.m.L.length c0, .slice A nw c], .agg (evA e)] W fun rr w' => ∃ A01 c01 A2 c2, rr = .returned (.tuple #[.agg #[.int .i64 r1.m.clk, .slice A01 r1.m.L.length c01, .slice A2 nw c2], .int .i64 cc]) ∧ KR w' w.heap.size (.slice A01 r1.m.L.length c01) r1.m.L ∧ KW w' w.heap.size (.slice A2 nw c2) r1.W ∧ Below W.heap.size W w' ∧ r1.W.length = nw) := ⟨fun W hW => by
    have q := rhear_any r A0 c0 A c nw e (by have := HI.out.2.1.len; have := HN.out; omega) HI.out.2.1.sim.nd hW.bel.size hW.kr hW.kw hW.len H64.out (fun x hx => by have := HI.out.2.1.beg x hx; have := HN.out; omega) (by have := HI.out.2.1.cn; have := HN.out; omega) HW.out.2
    rw [hrr] at q
    exact q.mono fun _ _ h => h⟩
   have HS1 := Aside0.mk (show goF (be0 nw) (l.take (k + 1)) = if cc = 0 then none else some (k, cc) by obtain ⟨h1, h2⟩ := List.getElem?_eq_some_iff.1 HE.out; rw [List.take_succ_eq_append_getElem h1, h2, goF_snoc _ _ _ HI.out.2.2, HST.out.1, List.length_take, Nat.min_eq_left (by omega)])
   have HS2 := Aside0.mk (show BSim (k + 1) (benchF (be0 nw) (l.take (k + 1))) r1 by obtain ⟨h1, h2⟩ := List.getElem?_eq_some_iff.1 HE.out; rw [List.take_succ_eq_append_getElem h1, h2, benchF_snoc]; exact HST.out.2)
   replace q0 := eq_true q0
   replace p0 := eq_true p0
   clear he hrr
   go_upto_region 7 with (fail)
   refine start_ (n := 11) (S := (fun w' => (∀ i, w'.cell? ⟨nb, i, none⟩ = (#[.int .i64 r.m.clk, .slice A0 r.m.L.length c0, .slice A nw c] : Array Value)[i]?) ∧ (∀ i, w'.frozen? ⟨nb, i, none⟩ = false) ∧ (w'.cell? (ad.add (k * 12)) = some (.int .i64 e.k)) ∧ (w'.cell? ⟨(ad.add (k * 12)).block, (ad.add (k * 12)).off + 1, none⟩ = some (.int .i64 e.wk)) ∧ (w'.cell? ⟨(ad.add (k * 12)).block, (ad.add (k * 12)).off + 2, none⟩ = some (.int .i64 e.op)) ∧ (w'.cell? ⟨(ad.add (k * 12)).block, (ad.add (k * 12)).off + 3, none⟩ = some (.int .i64 e.hn)) ∧ (w'.cell? ⟨(ad.add (k * 12)).block, (ad.add (k * 12)).off + 4, none⟩ = some (.int .i64 e.hg)) ∧ (w'.cell? ⟨(ad.add (k * 12)).block, (ad.add (k * 12)).off + 5, none⟩ = some (.int .i64 e.nn)) ∧ (w'.cell? ⟨(ad.add (k * 12)).block, (ad.add (k * 12)).off + 6, none⟩ = some (.int .i64 e.ng)) ∧ (w'.cell? ⟨(ad.add (k * 12)).block, (ad.add (k * 12)).off + 7, none⟩ = some (.int .i64 e.t)) ∧ (w'.cell? ⟨(ad.add (k * 12)).block, (ad.add (k * 12)).off + 8, none⟩ = some (.int .i64 e.a)) ∧ (w'.cell? ⟨(ad.add (k * 12)).block, (ad.add (k * 12)).off + 9, none⟩ = some (.int .i64 e.u)) ∧ (w'.cell? ⟨(ad.add (k * 12)).block, (ad.add (k * 12)).off + 10, none⟩ = some (.bool e.y)) ∧ (w'.cell? ⟨(ad.add (k * 12)).block, (ad.add (k * 12)).off + 11, none⟩ = some (.int .i64 e.er)))) (ds := [9]) #[ff,ff,ff,ff,ff,ff,ff,ff,ff,ff,ff] (by kernel_rfl) rfl rfl ⟨fun i => blk_cell HI.out.1.drew.b_ i, fun i => blk_frozen HI.out.1.drew.b_ i, (below_drew_ d0), (below_drew_ d1), (below_drew_ d2), (below_drew_ d3), (below_drew_ d4), (below_drew_ d5), (below_drew_ d6), (below_drew_ d7), (below_drew_ d8), (below_drew_ d9), (below_drew_ d10), (below_drew_ d11)⟩ (fun hHeld => ?_)
   refine with_tabW rjR.tab7 rjR.bits7 (fun HT_ HW_ => ?_)
   have HL3 := Aside0.mk HI.out.1.drew
   generalize World.drew _ = w3 at HL3 hHeld ⊢
   refine pure_ (i := 1) (N := (some 25)) (v := ?_) (a' := ?_) #[ff,tt,ff,ff,ff,ff,ff,ff,ff,ff,ff] rfl rfl (any_of HT_.out (by kernel_rfl)) (fun _ _ _ h => h) (Or.inl ⟨by rfl, ?_⟩) ?_ ?_
   rotate_left
   ·intro w'
    go_simp
    with_reducible rfl
   rotate_left
   ·simp only [Act.put, List.setIfInBounds_toArray, List.set_cons_zero, List.set_cons_succ, i64_w]
    rfl
   refine pure_ (i := 2) (N := (some 26)) (v := ?_) (a' := ?_) #[ff,tt,tt,ff,ff,ff,ff,ff,ff,ff,ff] rfl rfl (any_of HT_.out (by kernel_rfl)) (fun _ _ _ h => h) (Or.inl ⟨by rfl, ?_⟩) ?_ ?_
   rotate_left
   ·intro w'
    go_simp
    with_reducible rfl
   rotate_left
   ·simp only [Act.put, List.setIfInBounds_toArray, List.set_cons_zero, List.set_cons_succ, i64_w]
    rfl
   refine pure_ (i := 3) (N := (some 27)) (v := ?_) (a' := ?_) #[ff,tt,tt,tt,ff,ff,ff,ff,ff,ff,ff] rfl rfl (any_of HT_.out (by kernel_rfl)) (fun _ _ _ h => h) (Or.inl ⟨by rfl, ?_⟩) ?_ ?_
   rotate_left
   ·intro w'
    go_simp
    with_reducible rfl
   rotate_left
   ·simp only [Act.put, List.setIfInBounds_toArray, List.set_cons_zero, List.set_cons_succ, i64_w]
    rfl
   refine take_ (i := 0) (N := (some 24)) (v := ?_) (a' := ?_) #[tt,tt,tt,tt,ff,ff,ff,ff,ff,ff,ff] rfl rfl (take_ofW HT_.out HW_.out (by kernel_rfl)) (fun _ _ _ h => h) (Or.inl ⟨by rfl, ?_⟩) hHeld ?_ ?_
   rotate_left
   ·rintro w' ⟨s0, s1, s2, s3, s4, s5, s6, s7, s8, s9, s10, s11, s12, s13⟩
    go_simp
    with_reducible rfl
   rotate_left
   ·simp only [Act.put, List.setIfInBounds_toArray, List.set_cons_zero, List.set_cons_succ, i64_w]
    rfl
   refine take_ (i := 4) (N := (some 28)) (v := ?_) (a' := ?_) #[tt,tt,tt,tt,tt,ff,ff,ff,ff,ff,ff] rfl rfl (take_ofW HT_.out HW_.out (by kernel_rfl)) (fun _ _ _ h => h) (Or.inl ⟨by rfl, ?_⟩) hHeld ?_ ?_
   rotate_left
   ·rintro w' ⟨s0, s1, s2, s3, s4, s5, s6, s7, s8, s9, s10, s11, s12, s13⟩
    go_simp
    with_reducible rfl
   rotate_left
   ·simp only [Act.put, List.setIfInBounds_toArray, List.set_cons_zero, List.set_cons_succ, i64_w]
    rfl
   refine one_ (i := 5) (N := (some 29)) #[tt,tt,tt,tt,tt,tt,ff,ff,ff,ff,ff] rfl rfl (one_of HT_.out (by kernel_rfl)) (by decide) (fun K hK => ?_)
   refine call_ (f := 28) #[.agg #[.int .i64 r.m.clk, .slice A0 r.m.L.length c0, .slice A nw c], .agg (evA e)] (by rfl) rfl (by go_simp <;> rfl) ?_
   refine (CH.out w3 HL3.out).mono ?_
   rintro rr w4 ⟨A01, c01, A2, c2, rfl, hk1, hw1, hb1, hl1⟩
   refine ⟨_, rfl, ?_⟩
   have HL4 := Aside0.mk (HL3.out.step hb1)
   have HK1 := Aside0.mk hk1
   have HW1 := Aside0.mk hw1
   have HLE := Aside0.mk hl1
   obtain ⟨f0, f1, f2, f3, f4, f5, f6, f7, f8, f9, f10, f11⟩ := hHeld.2.2
   clear hk1 hw1 hl1
   refine hK.out _ _ ⟨fun i => blk_cell HL4.out.b_ i, fun i => blk_frozen HL4.out.b_ i, (pw_cell_below hb1 f0), (pw_cell_below hb1 f1), (pw_cell_below hb1 f2), (pw_cell_below hb1 f3), (pw_cell_below hb1 f4), (pw_cell_below hb1 f5), (pw_cell_below hb1 f6), (pw_cell_below hb1 f7), (pw_cell_below hb1 f8), (pw_cell_below hb1 f9), (pw_cell_below hb1 f10), (pw_cell_below hb1 f11)⟩ (fun hHeld => ?_)
   clear hK K
   refine norm_ (a' := ?_) ?_ ?_
   rotate_left
   ·show Act.put _ (some 29) _ = _
    simp only [Act.put, List.setIfInBounds_toArray, List.set_cons_zero, List.set_cons_succ, i64_w]
    rfl
   refine pure_ (i := 6) (N := (some 23)) (v := ?_) (a' := ?_) #[tt,tt,tt,tt,tt,tt,tt,ff,ff,ff,ff] rfl rfl (any_of HT_.out (by kernel_rfl)) (fun _ _ _ h => h) (Or.inl ⟨by rfl, ?_⟩) ?_ ?_
   rotate_left
   ·intro w'
    go_simp
    with_reducible rfl
   rotate_left
   ·simp only [Act.put, List.setIfInBounds_toArray, List.set_cons_zero, List.set_cons_succ, i64_w]
    rfl
   refine pure_ (i := 7) (N := (some 30)) (v := ?_) (a' := ?_) #[tt,tt,tt,tt,tt,tt,tt,tt,ff,ff,ff] rfl rfl (any_of HT_.out (by kernel_rfl)) (fun _ _ _ h => h) (Or.inl ⟨by rfl, ?_⟩) ?_ ?_
   rotate_left
   ·intro w'
    go_simp
    with_reducible rfl
   rotate_left
   ·simp only [Act.put, List.setIfInBounds_toArray, List.set_cons_zero, List.set_cons_succ, i64_w]
    rfl
   refine pure_ (i := 8) (N := (some 31)) (v := ?_) (a' := ?_) #[tt,tt,tt,tt,tt,tt,tt,tt,tt,ff,ff] rfl rfl (any_of HT_.out (by kernel_rfl)) (fun _ _ _ h => h) (Or.inl ⟨by rfl, ?_⟩) ?_ ?_
   rotate_left
   ·intro w'
    go_simp
    with_reducible rfl
   rotate_left
   ·simp only [Act.put, List.setIfInBounds_toArray, List.set_cons_zero, List.set_cons_succ, i64_w]
    rfl
   refine last_ (i := 9) (N := none) #[tt,tt,tt,tt,tt,tt,tt,tt,tt,tt,ff] rfl rfl (one_of HT_.out (by kernel_rfl)) (by decide) (fun K hK => ?_)
   refine skip_ (by rfl) rfl (w1 := (((w4.setCell ⟨nb, 0, none⟩ (.int .i64 r1.m.clk)).setCell ⟨nb, 1, none⟩ (.slice A01 r1.m.L.length c01)).setCell ⟨nb, 2, none⟩ (.slice A2 nw c2))) (by have q0 := hHeld.1 0; have q1 := hHeld.1 1; have q2 := hHeld.1 2; have q3 := hHeld.2.1 0; have q4 := hHeld.2.1 1; have q5 := hHeld.2.1 2; go_simp) ?_
   refine hK.out _ _ ?_
   clear hK K
   refine pure_ (i := 10) (N := (some 7)) (v := ?_) (a' := ?_) #[tt,tt,tt,tt,tt,tt,tt,tt,tt,tt,tt] rfl rfl (any_of HT_.out (by kernel_rfl)) (fun _ _ _ h => h) (Or.inl ⟨by rfl, ?_⟩) ?_ ?_
   rotate_left
   ·intro w'
    go_simp
    with_reducible rfl
   rotate_left
   ·simp only [Act.put, List.setIfInBounds_toArray, List.set_cons_zero, List.set_cons_succ, i64_w]
    rfl
   refine done_ (done_of HT_.out (by kernel_rfl)) ?_
   have HP := Aside0.mk (HL4.out.put HK1.out HW1.out HLE.out)
   clear hHeld
   by_cases h0 : cc = 0
   ·subst h0
    go_wp2
    go_roundw
    case rel => exact ⟨k + 1, by omega, by first | rw [hnn] | simp, ⟨r1, A01, c01, A2, c2, HP.out, HS2.out, by rw [HS1.out]; rfl⟩⟩
    case measure => first | (rw [hnn]; simp [intOf]; omega) | (simp [intOf]; omega)
   ·have g0 : (cc != 0) = true := bne_iff_ne.2 h0
    have HR := Aside0.mk (show judgeF l nw = ((k : Int), cc) by unfold judgeF; rw [if_neg HNW.out]; have := goF_app (l' := l.drop (k + 1)) (HS1.out.trans (if_neg h0)); rw [List.take_append_drop] at this; rw [this]; rfl)
    clear h0
    go_wp2
    go_ret2
    exact ⟨by rw [HR.out]; rfl, HP.out.bel⟩
  ·have q0 : ((k : Int) < (l.length : Int)) = False := eq_false (by omega)
   have HR := Aside0.mk (show judgeF l nw = (-1, 0) by unfold judgeF; rw [if_neg HNW.out]; obtain ⟨_, _, _, _, _, _, _, this⟩ := HI0.out; rw [List.take_of_length_le (by omega)] at this; rw [this]; rfl)
   have HBL : Aside0 (Below w.heap.size w wr) := ⟨by obtain ⟨_, _, _, _, _, this, _⟩ := HI0.out; exact this.bel⟩
   clear hk hge HI0
   go_wp2
   go_ret2
   exact ⟨by rw [HR.out]; rfl, HBL.out⟩
set_option maxHeartbeats 4000000 in
set_option maxRecDepth 100000 in
theorem rjudge_no (A1 : Option Addr) (c1 : Nat) (n : Int) (hb : n < 1 ∨ 64 < n) (l : List Au.Ev) (w : World) :
  Calls Try.prog 38 #[.slice A1 l.length c1, .int .i64 n] w fun r w' => r = .returned (.tuple #[.int .i64 (judgeF l n).1, .int .i64 (judgeF l n).2]) ∧ Below w.heap.size w w' := by
 have hu0 := Try.underlying46
 have CN := Aside0.mk (new_no n hb w)
 have HR := Aside0.mk (show judgeF l n = (-1, 1) by unfold judgeF; rw [if_pos hb])
 clear hb
 go_enter Try.func38, Try.ntmps38
 go_wp2_with (first | (go_at_call 27; go_loud (with_reducible refine CN.out.mono ?_; rintro rr w2 ⟨A0, c0, A, c, rfl, hb⟩; have HB2 := Aside0.mk hb; clear hb)) | ((with_reducible refine gate_store (t := 46) (p := 6) rfl ?_); go_loud (refine wpList_store_row rfl 46 _ _ rfl (w2.heap.size) #[.int .i64 0, .slice A0 0 c0, .slice A 0 c] rfl rfl 46 _ (blk_new w2 (.cells #[.int .i64 0, .slice none 0 0, .slice none 0 0] 46)) (by kernel_rfl) rfl (by simp [Value.oneCell']) ?_; have HP := Aside0.mk (below_step HB2.out (show Below w2.heap.size w2 ((w2.alloc (.cells #[.int .i64 0, .slice none 0 0, .slice none 0 0] 46)).setRow w2.heap.size #[.int .i64 0, .slice A0 0 c0, .slice A 0 c]) from below_setRow (below_alloc (Below.refl _ _) _) (Nat.le_refl _) _)))))
 go_ret2
 exact ⟨by rw [HR.out]; rfl, HP.out⟩
theorem rjudge_any (A1 : Option Addr) (c1 : Nat) (n : Int) (l : List Au.Ev) (hn : l.length ≤ 1000) (w : World) (hin : ∀ (i : Nat) e, l[i]? = some e → EvIn w A1 i e) (hwf : ∀ e ∈ l, (Lit.int .i64 e.hg).wf = true ∧ e.t ≤ 9223372036854775807) :
  Calls Try.prog 38 #[.slice A1 l.length c1, .int .i64 n] w fun r w' => r = .returned (.tuple #[.int .i64 (judgeF l n).1, .int .i64 (judgeF l n).2]) ∧ Below w.heap.size w w' := by
 by_cases hb : n < 1 ∨ 64 < n
 ·exact rjudge_no A1 c1 n hb l w
 ·obtain ⟨nw, rfl⟩ : ∃ nw : Nat, n = (nw : Int) := ⟨n.toNat, by omega⟩
  exact rjudge_yes A1 c1 nw (by omega) (by omega) l hn w hin hwf
end Go.Proofs.Ythniclbmpeklmaa.KJf
end
section
namespace Go.Proofs.Ythniclbmpeklmaa.KJh
open Go.RowKit Go.Proofs.YthniclbmpeklmaaW.PrintWords Go.Proofs.YthniclbmpeklmaaW.PrintLast Go.Proofs.YthniclbmpeklmaaW.PrintMore
attribute [local go_sem] max2_int min2_int max_two min_two max_three min_three max_four min_four   -- for this text's walks alone
set_option linter.unusedVariables false
set_option linter.unusedSimpArgs false
def errW : Option Int → Value
 | none => .nilIface
 | some c => .iface 0 (.int .i64 c)
theorem errW_none : errW none = .nilIface := rfl
theorem errW_some (c : Int) : errW (some c) = .iface 0 (.int .i64 c) := rfl
theorem info54 : (Try.prog.info? 54).map (fun i => (i.zero, i.size, i.bytes)) = some (some (.agg #[(.int .i64 0), (.int .i64 0), (.int .i64 0), (.int .i64 0), (.int .i64 0), (.int .i64 0), (.int .i64 0), (.int .i64 0), (.int .i64 0), (.int .i64 0), (.bool false), (.int .i64 0)]), 12, 96) := by kernel_rfl
structure S36 where
 f0 : Int
 f1 : Int
def z36 : S36 := ⟨(0 : Int), (0 : Int)⟩
def k36 : Kd S36 := Kd.iso (Kd.pair (Kd.int .i64) (Kd.int .i64)) (fun x : S36 => (x.f0, x.f1))
theorem k36_open {w : World} {x : S36} {cs : List Value} (h : k36.K w x cs) : cs = [.int .i64 x.f0, .int .i64 x.f1] := by
 obtain ⟨_, _, rfl, rfl, rfl⟩ := h
 exact rfl
theorem k36_mk (w : World) (x : S36)  : k36.K w x [.int .i64 x.f0, .int .i64 x.f1] := ⟨[.int .i64 x.f0], [.int .i64 x.f1], rfl, rfl, rfl⟩
structure S50 where
 f0 : Int
 f1 : Int
 f2 : Int
 f3 : S36
 f4 : S36
 f5 : Int
 f6 : Int
 f7 : Int
 f8 : Bool
 f9 : Int
def z50 : S50 := ⟨(0 : Int), (0 : Int), (0 : Int), z36, z36, (0 : Int), (0 : Int), (0 : Int), false, (0 : Int)⟩
def k50 : Kd S50 := Kd.iso (Kd.pair (Kd.int .i64) (Kd.pair (Kd.int .i64) (Kd.pair (Kd.int .i64) (Kd.pair k36 (Kd.pair k36 (Kd.pair (Kd.int .i64) (Kd.pair (Kd.int .i64) (Kd.pair (Kd.int .i64) (Kd.pair Kd.bool (Kd.int .i64)))))))))) (fun x : S50 => (x.f0, x.f1, x.f2, x.f3, x.f4, x.f5, x.f6, x.f7, x.f8, x.f9))
theorem k50_open {w : World} {x : S50} {cs : List Value} (h : k50.K w x cs) : cs = [.int .i64 x.f0, .int .i64 x.f1, .int .i64 x.f2, .int .i64 x.f3.f0, .int .i64 x.f3.f1, .int .i64 x.f4.f0, .int .i64 x.f4.f1, .int .i64 x.f5, .int .i64 x.f6, .int .i64 x.f7, .bool x.f8, .int .i64 x.f9] := by
 obtain ⟨_, _, rfl, rfl, ⟨_, _, rfl, rfl, ⟨_, _, rfl, rfl, ⟨_, _, rfl, s3, ⟨_, _, rfl, s5, ⟨_, _, rfl, rfl, ⟨_, _, rfl, rfl, ⟨_, _, rfl, rfl, ⟨_, _, rfl, rfl, rfl⟩⟩⟩⟩⟩⟩⟩⟩⟩ := h
 obtain rfl := k36_open s3
 obtain rfl := k36_open s5
 exact rfl
theorem k50_mk (w : World) (x : S50)  : k50.K w x [.int .i64 x.f0, .int .i64 x.f1, .int .i64 x.f2, .int .i64 x.f3.f0, .int .i64 x.f3.f1, .int .i64 x.f4.f0, .int .i64 x.f4.f1, .int .i64 x.f5, .int .i64 x.f6, .int .i64 x.f7, .bool x.f8, .int .i64 x.f9] := ⟨[.int .i64 x.f0], [.int .i64 x.f1, .int .i64 x.f2, .int .i64 x.f3.f0, .int .i64 x.f3.f1, .int .i64 x.f4.f0, .int .i64 x.f4.f1, .int .i64 x.f5, .int .i64 x.f6, .int .i64 x.f7, .bool x.f8, .int .i64 x.f9], rfl, rfl, ⟨[.int .i64 x.f1], [.int .i64 x.f2, .int .i64 x.f3.f0, .int .i64 x.f3.f1, .int .i64 x.f4.f0, .int .i64 x.f4.f1, .int .i64 x.f5, .int .i64 x.f6, .int .i64 x.f7, .bool x.f8, .int .i64 x.f9], rfl, rfl, ⟨[.int .i64 x.f2], [.int .i64 x.f3.f0, .int .i64 x.f3.f1, .int .i64 x.f4.f0, .int .i64 x.f4.f1, .int .i64 x.f5, .int .i64 x.f6, .int .i64 x.f7, .bool x.f8, .int .i64 x.f9], rfl, rfl, ⟨[.int .i64 x.f3.f0, .int .i64 x.f3.f1], [.int .i64 x.f4.f0, .int .i64 x.f4.f1, .int .i64 x.f5, .int .i64 x.f6, .int .i64 x.f7, .bool x.f8, .int .i64 x.f9], rfl, (k36_mk w x.f3 ), ⟨[.int .i64 x.f4.f0, .int .i64 x.f4.f1], [.int .i64 x.f5, .int .i64 x.f6, .int .i64 x.f7, .bool x.f8, .int .i64 x.f9], rfl, (k36_mk w x.f4 ), ⟨[.int .i64 x.f5], [.int .i64 x.f6, .int .i64 x.f7, .bool x.f8, .int .i64 x.f9], rfl, rfl, ⟨[.int .i64 x.f6], [.int .i64 x.f7, .bool x.f8, .int .i64 x.f9], rfl, rfl, ⟨[.int .i64 x.f7], [.bool x.f8, .int .i64 x.f9], rfl, rfl, ⟨[.bool x.f8], [.int .i64 x.f9], rfl, rfl, rfl⟩⟩⟩⟩⟩⟩⟩⟩⟩
def rd_T50 (xs : List S50) (i : Int) : S50 := xs.getD i.toNat z50
theorem at_T50 {w : World} {A : Option Addr} {n : Nat} {xs : List S50} (h : Kd.C k50 w A n xs) (i : Int) (h0 : 0 ≤ i) (h1 : i < n) : ∃ ad , A = some ad ∧ w.cell? (ad.add (i.toNat * 12)) = some (.int .i64 (rd_T50 xs i).f0) ∧ w.cell? ⟨(ad.add (i.toNat * 12)).block, (ad.add (i.toNat * 12)).off + 1, none⟩ = some (.int .i64 (rd_T50 xs i).f1) ∧ w.cell? ⟨(ad.add (i.toNat * 12)).block, (ad.add (i.toNat * 12)).off + 2, none⟩ = some (.int .i64 (rd_T50 xs i).f2) ∧ w.cell? ⟨(ad.add (i.toNat * 12)).block, (ad.add (i.toNat * 12)).off + 3, none⟩ = some (.int .i64 (rd_T50 xs i).f3.f0) ∧ w.cell? ⟨(ad.add (i.toNat * 12)).block, (ad.add (i.toNat * 12)).off + 4, none⟩ = some (.int .i64 (rd_T50 xs i).f3.f1) ∧ w.cell? ⟨(ad.add (i.toNat * 12)).block, (ad.add (i.toNat * 12)).off + 5, none⟩ = some (.int .i64 (rd_T50 xs i).f4.f0) ∧ w.cell? ⟨(ad.add (i.toNat * 12)).block, (ad.add (i.toNat * 12)).off + 6, none⟩ = some (.int .i64 (rd_T50 xs i).f4.f1) ∧ w.cell? ⟨(ad.add (i.toNat * 12)).block, (ad.add (i.toNat * 12)).off + 7, none⟩ = some (.int .i64 (rd_T50 xs i).f5) ∧ w.cell? ⟨(ad.add (i.toNat * 12)).block, (ad.add (i.toNat * 12)).off + 8, none⟩ = some (.int .i64 (rd_T50 xs i).f6) ∧ w.cell? ⟨(ad.add (i.toNat * 12)).block, (ad.add (i.toNat * 12)).off + 9, none⟩ = some (.int .i64 (rd_T50 xs i).f7) ∧ w.cell? ⟨(ad.add (i.toNat * 12)).block, (ad.add (i.toNat * 12)).off + 10, none⟩ = some (.bool (rd_T50 xs i).f8) ∧ w.cell? ⟨(ad.add (i.toNat * 12)).block, (ad.add (i.toNat * 12)).off + 11, none⟩ = some (.int .i64 (rd_T50 xs i).f9) := by
 obtain ⟨ad, c, e, _, hK, hc0⟩ := Kd.C_get h z50 i h0 h1
 have hc : ∀ j u, c[j]? = some u → w.cell? (ad.add (i.toNat * 12 + j)) = some u := hc0
 obtain rfl := k50_open hK
 exact ⟨ad, e, hc 0 _ rfl, by rw [← add_field _ _ 1 (by omega)]; exact hc 1 _ rfl, by rw [← add_field _ _ 2 (by omega)]; exact hc 2 _ rfl, by rw [← add_field _ _ 3 (by omega)]; exact hc 3 _ rfl, by rw [← add_field _ _ 4 (by omega)]; exact hc 4 _ rfl, by rw [← add_field _ _ 5 (by omega)]; exact hc 5 _ rfl, by rw [← add_field _ _ 6 (by omega)]; exact hc 6 _ rfl, by rw [← add_field _ _ 7 (by omega)]; exact hc 7 _ rfl, by rw [← add_field _ _ 8 (by omega)]; exact hc 8 _ rfl, by rw [← add_field _ _ 9 (by omega)]; exact hc 9 _ rfl, by rw [← add_field _ _ 10 (by omega)]; exact hc 10 _ rfl, by rw [← add_field _ _ 11 (by omega)]; exact hc 11 _ rfl⟩
structure S34 where
 f0 : Int
 f1 : Int
def z34 : S34 := ⟨(0 : Int), (0 : Int)⟩
def k34 : Kd S34 := Kd.iso (Kd.pair (Kd.int .i64) (Kd.int .i64)) (fun x : S34 => (x.f0, x.f1))
theorem k34_open {w : World} {x : S34} {cs : List Value} (h : k34.K w x cs) : cs = [.int .i64 x.f0, .int .i64 x.f1] := by
 obtain ⟨_, _, rfl, rfl, rfl⟩ := h
 exact rfl
theorem k34_mkM (w : World) (base : Nat) (ok : Nat → Prop) (x : S34)  : k34.M w base ok x [.int .i64 x.f0, .int .i64 x.f1] := ⟨[.int .i64 x.f0], [.int .i64 x.f1], rfl, rfl, rfl⟩
structure S54 where
 f0 : Int
 f1 : Int
 f2 : Int
 f3 : S34
 f4 : S34
 f5 : Int
 f6 : Int
 f7 : Int
 f8 : Bool
 f9 : Int
def z54 : S54 := ⟨(0 : Int), (0 : Int), (0 : Int), z34, z34, (0 : Int), (0 : Int), (0 : Int), false, (0 : Int)⟩
def k54 : Kd S54 := Kd.iso (Kd.pair (Kd.int .i64) (Kd.pair (Kd.int .i64) (Kd.pair (Kd.int .i64) (Kd.pair k34 (Kd.pair k34 (Kd.pair (Kd.int .i64) (Kd.pair (Kd.int .i64) (Kd.pair (Kd.int .i64) (Kd.pair Kd.bool (Kd.int .i64)))))))))) (fun x : S54 => (x.f0, x.f1, x.f2, x.f3, x.f4, x.f5, x.f6, x.f7, x.f8, x.f9))
theorem k54_open {w : World} {x : S54} {cs : List Value} (h : k54.K w x cs) : cs = [.int .i64 x.f0, .int .i64 x.f1, .int .i64 x.f2, .int .i64 x.f3.f0, .int .i64 x.f3.f1, .int .i64 x.f4.f0, .int .i64 x.f4.f1, .int .i64 x.f5, .int .i64 x.f6, .int .i64 x.f7, .bool x.f8, .int .i64 x.f9] := by
 obtain ⟨_, _, rfl, rfl, ⟨_, _, rfl, rfl, ⟨_, _, rfl, rfl, ⟨_, _, rfl, s3, ⟨_, _, rfl, s5, ⟨_, _, rfl, rfl, ⟨_, _, rfl, rfl, ⟨_, _, rfl, rfl, ⟨_, _, rfl, rfl, rfl⟩⟩⟩⟩⟩⟩⟩⟩⟩ := h
 obtain rfl := k34_open s3
 obtain rfl := k34_open s5
 exact rfl
theorem k54_mkM (w : World) (base : Nat) (ok : Nat → Prop) (x : S54)  : k54.M w base ok x [.int .i64 x.f0, .int .i64 x.f1, .int .i64 x.f2, .int .i64 x.f3.f0, .int .i64 x.f3.f1, .int .i64 x.f4.f0, .int .i64 x.f4.f1, .int .i64 x.f5, .int .i64 x.f6, .int .i64 x.f7, .bool x.f8, .int .i64 x.f9] := ⟨[.int .i64 x.f0], [.int .i64 x.f1, .int .i64 x.f2, .int .i64 x.f3.f0, .int .i64 x.f3.f1, .int .i64 x.f4.f0, .int .i64 x.f4.f1, .int .i64 x.f5, .int .i64 x.f6, .int .i64 x.f7, .bool x.f8, .int .i64 x.f9], rfl, rfl, ⟨[.int .i64 x.f1], [.int .i64 x.f2, .int .i64 x.f3.f0, .int .i64 x.f3.f1, .int .i64 x.f4.f0, .int .i64 x.f4.f1, .int .i64 x.f5, .int .i64 x.f6, .int .i64 x.f7, .bool x.f8, .int .i64 x.f9], rfl, rfl, ⟨[.int .i64 x.f2], [.int .i64 x.f3.f0, .int .i64 x.f3.f1, .int .i64 x.f4.f0, .int .i64 x.f4.f1, .int .i64 x.f5, .int .i64 x.f6, .int .i64 x.f7, .bool x.f8, .int .i64 x.f9], rfl, rfl, ⟨[.int .i64 x.f3.f0, .int .i64 x.f3.f1], [.int .i64 x.f4.f0, .int .i64 x.f4.f1, .int .i64 x.f5, .int .i64 x.f6, .int .i64 x.f7, .bool x.f8, .int .i64 x.f9], rfl, (k34_mkM w base ok x.f3 ), ⟨[.int .i64 x.f4.f0, .int .i64 x.f4.f1], [.int .i64 x.f5, .int .i64 x.f6, .int .i64 x.f7, .bool x.f8, .int .i64 x.f9], rfl, (k34_mkM w base ok x.f4 ), ⟨[.int .i64 x.f5], [.int .i64 x.f6, .int .i64 x.f7, .bool x.f8, .int .i64 x.f9], rfl, rfl, ⟨[.int .i64 x.f6], [.int .i64 x.f7, .bool x.f8, .int .i64 x.f9], rfl, rfl, ⟨[.int .i64 x.f7], [.bool x.f8, .int .i64 x.f9], rfl, rfl, ⟨[.bool x.f8], [.int .i64 x.f9], rfl, rfl, rfl⟩⟩⟩⟩⟩⟩⟩⟩⟩
def rd_T54 (xs : List S54) (i : Int) : S54 := xs.getD i.toNat z54
theorem at_T54 {w : World} {A : Option Addr} {n : Nat} {xs : List S54} (h : Kd.C k54 w A n xs) (i : Int) (h0 : 0 ≤ i) (h1 : i < n) : ∃ ad , A = some ad ∧ w.cell? (ad.add (i.toNat * 12)) = some (.int .i64 (rd_T54 xs i).f0) ∧ w.cell? ⟨(ad.add (i.toNat * 12)).block, (ad.add (i.toNat * 12)).off + 1, none⟩ = some (.int .i64 (rd_T54 xs i).f1) ∧ w.cell? ⟨(ad.add (i.toNat * 12)).block, (ad.add (i.toNat * 12)).off + 2, none⟩ = some (.int .i64 (rd_T54 xs i).f2) ∧ w.cell? ⟨(ad.add (i.toNat * 12)).block, (ad.add (i.toNat * 12)).off + 3, none⟩ = some (.int .i64 (rd_T54 xs i).f3.f0) ∧ w.cell? ⟨(ad.add (i.toNat * 12)).block, (ad.add (i.toNat * 12)).off + 4, none⟩ = some (.int .i64 (rd_T54 xs i).f3.f1) ∧ w.cell? ⟨(ad.add (i.toNat * 12)).block, (ad.add (i.toNat * 12)).off + 5, none⟩ = some (.int .i64 (rd_T54 xs i).f4.f0) ∧ w.cell? ⟨(ad.add (i.toNat * 12)).block, (ad.add (i.toNat * 12)).off + 6, none⟩ = some (.int .i64 (rd_T54 xs i).f4.f1) ∧ w.cell? ⟨(ad.add (i.toNat * 12)).block, (ad.add (i.toNat * 12)).off + 7, none⟩ = some (.int .i64 (rd_T54 xs i).f5) ∧ w.cell? ⟨(ad.add (i.toNat * 12)).block, (ad.add (i.toNat * 12)).off + 8, none⟩ = some (.int .i64 (rd_T54 xs i).f6) ∧ w.cell? ⟨(ad.add (i.toNat * 12)).block, (ad.add (i.toNat * 12)).off + 9, none⟩ = some (.int .i64 (rd_T54 xs i).f7) ∧ w.cell? ⟨(ad.add (i.toNat * 12)).block, (ad.add (i.toNat * 12)).off + 10, none⟩ = some (.bool (rd_T54 xs i).f8) ∧ w.cell? ⟨(ad.add (i.toNat * 12)).block, (ad.add (i.toNat * 12)).off + 11, none⟩ = some (.int .i64 (rd_T54 xs i).f9) := by
 obtain ⟨ad, c, e, _, hK, hc0⟩ := Kd.C_get h z54 i h0 h1
 have hc : ∀ j u, c[j]? = some u → w.cell? (ad.add (i.toNat * 12 + j)) = some u := hc0
 obtain rfl := k54_open hK
 exact ⟨ad, e, hc 0 _ rfl, by rw [← add_field _ _ 1 (by omega)]; exact hc 1 _ rfl, by rw [← add_field _ _ 2 (by omega)]; exact hc 2 _ rfl, by rw [← add_field _ _ 3 (by omega)]; exact hc 3 _ rfl, by rw [← add_field _ _ 4 (by omega)]; exact hc 4 _ rfl, by rw [← add_field _ _ 5 (by omega)]; exact hc 5 _ rfl, by rw [← add_field _ _ 6 (by omega)]; exact hc 6 _ rfl, by rw [← add_field _ _ 7 (by omega)]; exact hc 7 _ rfl, by rw [← add_field _ _ 8 (by omega)]; exact hc 8 _ rfl, by rw [← add_field _ _ 9 (by omega)]; exact hc 9 _ rfl, by rw [← add_field _ _ 10 (by omega)]; exact hc 10 _ rfl, by rw [← add_field _ _ 11 (by omega)]; exact hc 11 _ rfl⟩
end Go.Proofs.Ythniclbmpeklmaa.KJh
end
section
set_option maxHeartbeats 8000000
set_option maxRecDepth 100000
namespace Go.Proofs.Ythniclbmpeklmaa.KJh
open Go.RowKit Go.Proofs.YthniclbmpeklmaaW.PrintWords Go.Proofs.YthniclbmpeklmaaW.PrintLast Go.Proofs.YthniclbmpeklmaaW.PrintMore
attribute [local go_sem] max2_int min2_int max_two min_two max_three min_three max_four min_four   -- for this text's walks alone
set_option linter.unusedVariables false
set_option linter.unusedSimpArgs false
def knelllaw11_Of.f (a0_0 : Int) (a0_1 : Int) (a0_2 : Int) (a0_3 : Int) (a0_4 : Int) (a0_5 : Int) (a0_6 : Int) (a0_7 : Int) (a0_8 : Int) (a0_9 : Int) (a0_10 : Bool) (a0_11 : Int) : Option (Int × Int × Int × Int × Int × Int × Int × Int × Int × Int × Bool × Int) := some (a0_0, a0_1, a0_2, a0_3, a0_4, a0_5, a0_6, a0_7, a0_8, a0_9, a0_10, a0_11)
theorem knelllaw11_Of.calls (a0_0 : Int) (a0_1 : Int) (a0_2 : Int) (a0_3 : Int) (a0_4 : Int) (a0_5 : Int) (a0_6 : Int) (a0_7 : Int) (a0_8 : Int) (a0_9 : Int) (a0_10 : Bool) (a0_11 : Int) (r1 : Int) (r2 : Int) (r3 : Int) (r4 : Int) (r5 : Int) (r6 : Int) (r7 : Int) (r8 : Int) (r9 : Int) (r10 : Int) (r11 : Bool) (r12 : Int) (w : World) (h : knelllaw11_Of.f a0_0 a0_1 a0_2 a0_3 a0_4 a0_5 a0_6 a0_7 a0_8 a0_9 a0_10 a0_11 = some (r1, r2, r3, r4, r5, r6, r7, r8, r9, r10, r11, r12)) :
  Calls Try.prog 30 #[.agg #[.int .i64 a0_0, .int .i64 a0_1, .int .i64 a0_2, .int .i64 a0_3, .int .i64 a0_4, .int .i64 a0_5, .int .i64 a0_6, .int .i64 a0_7, .int .i64 a0_8, .int .i64 a0_9, .bool a0_10, .int .i64 a0_11]] w fun e w' => e = .returned (.agg #[.int .i64 r1, .int .i64 r2, .int .i64 r3, .int .i64 r4, .int .i64 r5, .int .i64 r6, .int .i64 r7, .int .i64 r8, .int .i64 r9, .int .i64 r10, .bool r11, .int .i64 r12]) ∧ Below w.heap.size w w' := by
 have hu50 := Try.underlying50
 have hu54 := Try.underlying54
 have hu34 := Try.underlying34
 have HB := Aside0.mk (Below.refl w.heap.size w)
 have H : (some (a0_0, a0_1, a0_2, a0_3, a0_4, a0_5, a0_6, a0_7, a0_8, a0_9, a0_10, a0_11)) = some (r1, r2, r3, r4, r5, r6, r7, r8, r9, r10, r11, r12) := h
 clear h
 simp only [Option.some.injEq, Prod.mk.injEq] at H
 obtain ⟨rfl, rfl, rfl, rfl, rfl, rfl, rfl, rfl, rfl, rfl, rfl, rfl⟩ := H
 go_enter Try.func30, Try.ntmps30
 go_wp2_with (first | ((with_reducible refine gate_dst (N := 1) rfl ?_); refine box_event ?hg (N := 1) ?hd (cs := #[.int .i64 a0_0, .int .i64 a0_1, .int .i64 a0_2, .int .i64 a0_3, .int .i64 a0_4, .int .i64 a0_5, .int .i64 a0_6, .int .i64 a0_7, .int .i64 a0_8, .int .i64 a0_9, .bool a0_10, .int .i64 a0_11]) (t := 50) ?hr ?_; (case hd => rfl); (case hg => rfl); (case hr => first | (go_simp; done) | (go_simp; rfl)); intro gb101 hg w2 hbox hb; have n0_ := Aside0.mk (below_step (by repeat (first | (with_reducible first | exact HB.out | apply below_alloc | apply pw_below_drewN | apply below_drew1) | exact HB.out)) hb); have n1_ := Aside0.mk (hbox); have n2_ := Aside0.mk ((by rw [hg]; exact (below_size (by repeat (first | (with_reducible first | exact HB.out | apply below_alloc | apply pw_below_drewN | apply below_drew1) | exact HB.out))) : w.heap.size ≤ gb101)); have n3_ := Aside0.mk ((by rw [hg]; exact (below_size (by repeat (first | (with_reducible first | exact HB.out | apply below_alloc | apply pw_below_drewN | apply below_drew1) | exact HB.out))) : w.heap.size ≤ gb101)); clear HB; have HB := n0_; have BK101 := n1_; have GW101 := n2_; have GE101 := n3_; clear n0_ n1_ n2_ n3_; clear hb hbox hg) | ((with_reducible refine gate_dst (N := 2) rfl ?_); refine box_event ?hg (N := 2) ?hd (cs := #[.int .i64 0, .int .i64 0, .int .i64 0, .int .i64 0, .int .i64 0, .int .i64 0, .int .i64 0, .int .i64 0, .int .i64 0, .int .i64 0, .bool false, .int .i64 0]) (t := 54) ?hr ?_; (case hd => rfl); (case hg => rfl); (case hr => first | (go_simp; done) | (go_simp; rfl)); intro gb102 hg w3 hbox hb; have n0_ := Aside0.mk (blk_below (g := gb101) (o := .cells #[.int .i64 a0_0, .int .i64 a0_1, .int .i64 a0_2, .int .i64 a0_3, .int .i64 a0_4, .int .i64 a0_5, .int .i64 a0_6, .int .i64 a0_7, .int .i64 a0_8, .int .i64 a0_9, .bool a0_10, .int .i64 a0_11] 50 (0, 0)) (by (with_reducible repeat (first | refine blk_drewN ?_ _ | refine blk_drew ?_ | refine blk_alloc ?_ _)); exact BK101.out) hb); have n1_ := Aside0.mk (below_step (by repeat (first | (with_reducible first | exact HB.out | apply below_alloc | apply pw_below_drewN | apply below_drew1 | refine below_set ?_ GE101.out) | exact HB.out)) hb); have n2_ := Aside0.mk (hbox); have n3_ := Aside0.mk ((by rw [hg]; exact (below_size (by repeat (first | (with_reducible first | exact HB.out | apply below_alloc | apply pw_below_drewN | apply below_drew1 | refine below_set ?_ GE101.out) | exact HB.out))) : w.heap.size ≤ gb102)); have n4_ := Aside0.mk ((by rw [hg]; exact (below_size (by repeat (first | (with_reducible first | exact HB.out | apply below_alloc | apply pw_below_drewN | apply below_drew1 | refine below_set ?_ GE101.out) | exact HB.out))) : w.heap.size ≤ gb102)); have n5_ := Aside0.mk ((by rw [hg]; exact Nat.ne_of_lt (blk_lt (g := gb101) (o := .cells #[.int .i64 a0_0, .int .i64 a0_1, .int .i64 a0_2, .int .i64 a0_3, .int .i64 a0_4, .int .i64 a0_5, .int .i64 a0_6, .int .i64 a0_7, .int .i64 a0_8, .int .i64 a0_9, .bool a0_10, .int .i64 a0_11] 50 (0, 0)) (by (with_reducible repeat (first | refine blk_drewN ?_ _ | refine blk_drew ?_ | refine blk_alloc ?_ _)); exact BK101.out)) : gb101 ≠ gb102)); have n6_ := Aside0.mk ((by rw [hg]; exact Nat.ne_of_gt (blk_lt (g := gb101) (o := .cells #[.int .i64 a0_0, .int .i64 a0_1, .int .i64 a0_2, .int .i64 a0_3, .int .i64 a0_4, .int .i64 a0_5, .int .i64 a0_6, .int .i64 a0_7, .int .i64 a0_8, .int .i64 a0_9, .bool a0_10, .int .i64 a0_11] 50 (0, 0)) (by (with_reducible repeat (first | refine blk_drewN ?_ _ | refine blk_drew ?_ | refine blk_alloc ?_ _)); exact BK101.out)) : gb102 ≠ gb101)); clear BK101; clear HB; have BK101 := n0_; have HB := n1_; have BK102 := n2_; have GW102 := n3_; have GE102 := n4_; have NB101_102 := n5_; have NB102_101 := n6_; clear n0_ n1_ n2_ n3_ n4_ n5_ n6_; clear hb hbox hg; have hnb4 := NB101_102.out; have hnc4 := NB102_101.out; have hcz5_0 : w3.cell? ⟨gb101, 0, none⟩ = some (.int .i64 a0_0) := (blk_cell BK101.out 0).trans rfl; have hcz5_1 : w3.cell? ⟨gb101, 1, none⟩ = some (.int .i64 a0_1) := (blk_cell BK101.out 1).trans rfl; have hcz5_2 : w3.cell? ⟨gb101, 2, none⟩ = some (.int .i64 a0_2) := (blk_cell BK101.out 2).trans rfl; have hcz5_3 : w3.cell? ⟨gb101, 3, none⟩ = some (.int .i64 a0_3) := (blk_cell BK101.out 3).trans rfl; have hcz5_4 : w3.cell? ⟨gb101, 4, none⟩ = some (.int .i64 a0_4) := (blk_cell BK101.out 4).trans rfl; have hcz5_5 : w3.cell? ⟨gb101, 5, none⟩ = some (.int .i64 a0_5) := (blk_cell BK101.out 5).trans rfl; have hcz5_6 : w3.cell? ⟨gb101, 6, none⟩ = some (.int .i64 a0_6) := (blk_cell BK101.out 6).trans rfl; have hcz5_7 : w3.cell? ⟨gb101, 7, none⟩ = some (.int .i64 a0_7) := (blk_cell BK101.out 7).trans rfl; have hcz5_8 : w3.cell? ⟨gb101, 8, none⟩ = some (.int .i64 a0_8) := (blk_cell BK101.out 8).trans rfl; have hcz5_9 : w3.cell? ⟨gb101, 9, none⟩ = some (.int .i64 a0_9) := (blk_cell BK101.out 9).trans rfl; have hcz5_10 : w3.cell? ⟨gb101, 10, none⟩ = some (.bool a0_10) := (blk_cell BK101.out 10).trans rfl; have hcz5_11 : w3.cell? ⟨gb101, 11, none⟩ = some (.int .i64 a0_11) := (blk_cell BK101.out 11).trans rfl; have hfz5_0 := blk_frozen BK101.out 0; have hfz5_1 := blk_frozen BK101.out 1; have hfz5_2 := blk_frozen BK101.out 2; have hfz5_3 := blk_frozen BK101.out 3; have hfz5_4 := blk_frozen BK101.out 4; have hfz5_5 := blk_frozen BK101.out 5; have hfz5_6 := blk_frozen BK101.out 6; have hfz5_7 := blk_frozen BK101.out 7; have hfz5_8 := blk_frozen BK101.out 8; have hfz5_9 := blk_frozen BK101.out 9; have hfz5_10 := blk_frozen BK101.out 10; have hfz5_11 := blk_frozen BK101.out 11; have hcz6_0 : w3.cell? ⟨gb102, 0, none⟩ = some (.int .i64 0) := (blk_cell BK102.out 0).trans rfl; have hcz6_1 : w3.cell? ⟨gb102, 1, none⟩ = some (.int .i64 0) := (blk_cell BK102.out 1).trans rfl; have hcz6_2 : w3.cell? ⟨gb102, 2, none⟩ = some (.int .i64 0) := (blk_cell BK102.out 2).trans rfl; have hcz6_3 : w3.cell? ⟨gb102, 3, none⟩ = some (.int .i64 0) := (blk_cell BK102.out 3).trans rfl; have hcz6_4 : w3.cell? ⟨gb102, 4, none⟩ = some (.int .i64 0) := (blk_cell BK102.out 4).trans rfl; have hcz6_5 : w3.cell? ⟨gb102, 5, none⟩ = some (.int .i64 0) := (blk_cell BK102.out 5).trans rfl; have hcz6_6 : w3.cell? ⟨gb102, 6, none⟩ = some (.int .i64 0) := (blk_cell BK102.out 6).trans rfl; have hcz6_7 : w3.cell? ⟨gb102, 7, none⟩ = some (.int .i64 0) := (blk_cell BK102.out 7).trans rfl; have hcz6_8 : w3.cell? ⟨gb102, 8, none⟩ = some (.int .i64 0) := (blk_cell BK102.out 8).trans rfl; have hcz6_9 : w3.cell? ⟨gb102, 9, none⟩ = some (.int .i64 0) := (blk_cell BK102.out 9).trans rfl; have hcz6_10 : w3.cell? ⟨gb102, 10, none⟩ = some (.bool false) := (blk_cell BK102.out 10).trans rfl; have hcz6_11 : w3.cell? ⟨gb102, 11, none⟩ = some (.int .i64 0) := (blk_cell BK102.out 11).trans rfl; have hfz6_0 := blk_frozen BK102.out 0; have hfz6_1 := blk_frozen BK102.out 1; have hfz6_2 := blk_frozen BK102.out 2; have hfz6_3 := blk_frozen BK102.out 3; have hfz6_4 := blk_frozen BK102.out 4; have hfz6_5 := blk_frozen BK102.out 5; have hfz6_6 := blk_frozen BK102.out 6; have hfz6_7 := blk_frozen BK102.out 7; have hfz6_8 := blk_frozen BK102.out 8; have hfz6_9 := blk_frozen BK102.out 9; have hfz6_10 := blk_frozen BK102.out 10; have hfz6_11 := blk_frozen BK102.out 11))
 refine bodyPost_ret (results_cell_row rfl _ _ gb102 54 #[.int .i64 a0_0, .int .i64 a0_1, .int .i64 a0_2, .int .i64 a0_3, .int .i64 a0_4, .int .i64 a0_5, .int .i64 a0_6, .int .i64 a0_7, .int .i64 a0_8, .int .i64 a0_9, .bool a0_10, .int .i64 a0_11] (0, 0) _ rfl (by (with_reducible repeat (first | refine blk_drewN ?_ _ | refine blk_drew ?_ | refine blk_alloc ?_ _)); refine blk_put (cs := #[.int .i64 a0_0, .int .i64 a0_1, .int .i64 a0_2, .int .i64 a0_3, .int .i64 a0_4, .int .i64 a0_5, .int .i64 a0_6, .int .i64 a0_7, .int .i64 a0_8, .int .i64 a0_9, .bool a0_10, .int .i64 0]) ?_ 11 _ rfl; (with_reducible repeat (first | refine blk_drewN ?_ _ | refine blk_drew ?_ | refine blk_alloc ?_ _)); refine blk_put (cs := #[.int .i64 a0_0, .int .i64 a0_1, .int .i64 a0_2, .int .i64 a0_3, .int .i64 a0_4, .int .i64 a0_5, .int .i64 a0_6, .int .i64 a0_7, .int .i64 a0_8, .int .i64 a0_9, .bool false, .int .i64 0]) ?_ 10 _ rfl; (with_reducible repeat (first | refine blk_drewN ?_ _ | refine blk_drew ?_ | refine blk_alloc ?_ _)); refine blk_put (cs := #[.int .i64 a0_0, .int .i64 a0_1, .int .i64 a0_2, .int .i64 a0_3, .int .i64 a0_4, .int .i64 a0_5, .int .i64 a0_6, .int .i64 a0_7, .int .i64 a0_8, .int .i64 0, .bool false, .int .i64 0]) ?_ 9 _ rfl; (with_reducible repeat (first | refine blk_drewN ?_ _ | refine blk_drew ?_ | refine blk_alloc ?_ _)); refine blk_put (cs := #[.int .i64 a0_0, .int .i64 a0_1, .int .i64 a0_2, .int .i64 a0_3, .int .i64 a0_4, .int .i64 a0_5, .int .i64 a0_6, .int .i64 a0_7, .int .i64 0, .int .i64 0, .bool false, .int .i64 0]) ?_ 8 _ rfl; (with_reducible repeat (first | refine blk_drewN ?_ _ | refine blk_drew ?_ | refine blk_alloc ?_ _)); refine blk_put (cs := #[.int .i64 a0_0, .int .i64 a0_1, .int .i64 a0_2, .int .i64 a0_3, .int .i64 a0_4, .int .i64 a0_5, .int .i64 a0_6, .int .i64 0, .int .i64 0, .int .i64 0, .bool false, .int .i64 0]) ?_ 7 _ rfl; (with_reducible repeat (first | refine blk_drewN ?_ _ | refine blk_drew ?_ | refine blk_alloc ?_ _)); refine blk_put (cs := #[.int .i64 a0_0, .int .i64 a0_1, .int .i64 a0_2, .int .i64 a0_3, .int .i64 a0_4, .int .i64 a0_5, .int .i64 0, .int .i64 0, .int .i64 0, .int .i64 0, .bool false, .int .i64 0]) ?_ 6 _ rfl; (with_reducible repeat (first | refine blk_drewN ?_ _ | refine blk_drew ?_ | refine blk_alloc ?_ _)); refine blk_put (cs := #[.int .i64 a0_0, .int .i64 a0_1, .int .i64 a0_2, .int .i64 a0_3, .int .i64 a0_4, .int .i64 0, .int .i64 0, .int .i64 0, .int .i64 0, .int .i64 0, .bool false, .int .i64 0]) ?_ 5 _ rfl; (with_reducible repeat (first | refine blk_drewN ?_ _ | refine blk_drew ?_ | refine blk_alloc ?_ _)); refine blk_put (cs := #[.int .i64 a0_0, .int .i64 a0_1, .int .i64 a0_2, .int .i64 a0_3, .int .i64 0, .int .i64 0, .int .i64 0, .int .i64 0, .int .i64 0, .int .i64 0, .bool false, .int .i64 0]) ?_ 4 _ rfl; (with_reducible repeat (first | refine blk_drewN ?_ _ | refine blk_drew ?_ | refine blk_alloc ?_ _)); refine blk_put (cs := #[.int .i64 a0_0, .int .i64 a0_1, .int .i64 a0_2, .int .i64 0, .int .i64 0, .int .i64 0, .int .i64 0, .int .i64 0, .int .i64 0, .int .i64 0, .bool false, .int .i64 0]) ?_ 3 _ rfl; (with_reducible repeat (first | refine blk_drewN ?_ _ | refine blk_drew ?_ | refine blk_alloc ?_ _)); refine blk_put (cs := #[.int .i64 a0_0, .int .i64 a0_1, .int .i64 0, .int .i64 0, .int .i64 0, .int .i64 0, .int .i64 0, .int .i64 0, .int .i64 0, .int .i64 0, .bool false, .int .i64 0]) ?_ 2 _ rfl; (with_reducible repeat (first | refine blk_drewN ?_ _ | refine blk_drew ?_ | refine blk_alloc ?_ _)); refine blk_put (cs := #[.int .i64 a0_0, .int .i64 0, .int .i64 0, .int .i64 0, .int .i64 0, .int .i64 0, .int .i64 0, .int .i64 0, .int .i64 0, .int .i64 0, .bool false, .int .i64 0]) ?_ 1 _ rfl; (with_reducible repeat (first | refine blk_drewN ?_ _ | refine blk_drew ?_ | refine blk_alloc ?_ _)); refine blk_put (cs := #[.int .i64 0, .int .i64 0, .int .i64 0, .int .i64 0, .int .i64 0, .int .i64 0, .int .i64 0, .int .i64 0, .int .i64 0, .int .i64 0, .bool false, .int .i64 0]) ?_ 0 _ rfl; (with_reducible repeat (first | refine blk_drewN ?_ _ | refine blk_drew ?_ | refine blk_alloc ?_ _)); exact BK102.out) Try.underlying54 rfl (by kernel_rfl)) rfl ?_
 exact ⟨by first | rfl | (simp [errW_none, errW_some] <;> rfl) | (simp [*, errW_none, errW_some] <;> rfl), by repeat (first | (with_reducible first | exact HB.out | apply below_alloc | apply pw_below_drewN | apply below_drew1 | refine below_set ?_ GE101.out | refine below_set ?_ GE102.out) | exact HB.out)⟩
def knelllaw11_Ofs.l0 : Nat → List (S54) → List (S50) → Int → Int → Option ((List (S54)))
 | 0, _, _, _, _ => none
 | k + 1, x3, x6, x7, x8 => if x8 < x7 then (if 0 ≤ x8 then (if x8 < (x6.length : Int) then ((knelllaw11_Of.f ((rd_T50 x6 x8).f0) ((rd_T50 x6 x8).f1) ((rd_T50 x6 x8).f2) ((rd_T50 x6 x8).f3.f0) ((rd_T50 x6 x8).f3.f1) ((rd_T50 x6 x8).f4.f0) ((rd_T50 x6 x8).f4.f1) ((rd_T50 x6 x8).f5) ((rd_T50 x6 x8).f6) ((rd_T50 x6 x8).f7) ((rd_T50 x6 x8).f8) ((rd_T50 x6 x8).f9)).bind fun bt105 => (if x3.length < 1466015503701 then (knelllaw11_Ofs.l0 k (x3 ++ [(⟨bt105.1, bt105.2.1, bt105.2.2.1, (⟨bt105.2.2.2.1, bt105.2.2.2.2.1⟩ : S34), (⟨bt105.2.2.2.2.2.1, bt105.2.2.2.2.2.2.1⟩ : S34), bt105.2.2.2.2.2.2.2.1, bt105.2.2.2.2.2.2.2.2.1, bt105.2.2.2.2.2.2.2.2.2.1, bt105.2.2.2.2.2.2.2.2.2.2.1, bt105.2.2.2.2.2.2.2.2.2.2.2⟩ : S54)]) x6 x7 (wrap64 (x8 + 1))) else (none))) else (none)) else (none)) else (some x3)
def knelllaw11_Ofs.f (k : Nat) (l0 : List (S50)) : Option ((List (S54))) := knelllaw11_Ofs.l0 k ([] : List (S54)) l0 (l0.length : Int) 0
theorem knelllaw11_Ofs.calls (k : Nat) (A0 : Option Addr) (c0 : Nat) (l0 : List (S50)) (r : List (S54)) (w : World) (hr0 : Kd.C k50 w A0 l0.length l0) (hc0 : l0.length ≤ c0) (h : knelllaw11_Ofs.f k l0 = some r) :
  Calls Try.prog 16 #[.slice A0 l0.length c0] w fun e w' => ∃ v0_ : Value, e = .returned (v0_) ∧ Kd.R k54 54 w' w.heap.size (fun _ => True) v0_ r ∧ Below w.heap.size w w' := by
 have hu50 := Try.underlying50
 have HR0 := Aside0.mk hr0
 have HC0 := Aside0.mk hc0
 clear hr0 hc0
 have HB := Aside0.mk (Below.refl w.heap.size w)
 have H : (knelllaw11_Ofs.l0 k ([] : List (S54)) l0 (l0.length : Int) 0) = some r := h
 clear h
 have H' := Aside0.mk H
 clear H
 go_enter Try.func16, Try.ntmps16
 go_wp2
 go_loopg [3, 8] k (fun kq v3 v8 w' => ∃ (x3_1 : List (S54)) (x8_1 : Int), v8 = .int .i64 x8_1 ∧ Aside0 (knelllaw11_Ofs.l0 kq x3_1 l0 (l0.length : Int) x8_1 = some r) ∧ Aside0 (kq ≤ k) ∧ Aside0 (Kd.R k54 54 w' w.heap.size (fun _ => True) v3 x3_1) ∧ Aside0 (Below w.heap.size w w'))
 case atStart => exact ⟨(([] : List (S54))), (0), (by first | rfl | (simp; done) | (simp [*]; done)), H', ⟨Nat.le_refl _⟩, ⟨by first | exact Kd.R_nil _ _ _ _ _ | exact Kd.N_nil _ _ _ _ _ | exact Kd.V_nil _ _ _ _ _ | exact Kd.Q_nil _ _ _ _ _ | exact Kd.S_nil _ _ _ _ _⟩, ⟨by repeat (first | (with_reducible first | exact HB.out | apply below_alloc | apply pw_below_drewN | apply below_drew1) | exact HB.out)⟩⟩
 case round =>
  clear H'
  try clear c1
  obtain ⟨x3_1, x8_1, rfl, HA, HK1, HO_3, HB⟩ := hrel
  cases gk with
  | zero => exact absurd HA.out (by simp [knelllaw11_Ofs.l0])
  | succ k1 =>
   have H := HA.out
   clear HA
   simp only [knelllaw11_Ofs.l0] at H
   by_cases c2 : x8_1 < (l0.length : Int)
   ·rw [if_pos c2] at H
    have c2b0 : decide (x8_1 < (l0.length : Int)) = true := decide_eq_true c2
    clear c2
    by_cases c3 : 0 ≤ x8_1
    ·rw [if_pos c3] at H
     have c3b0 : decide (0 ≤ x8_1) = true := decide_eq_true c3
     clear c3
     by_cases c4 : x8_1 < (l0.length : Int)
     ·rw [if_pos c4] at H
      have c4b0 : decide (x8_1 < (l0.length : Int)) = true := decide_eq_true c4
      clear c4
      replace H := Option.bind_eq_some_iff.mp H
      obtain ⟨⟨t105, t106, t107, t108, t109, t110, t111, t112, t113, t114, t115, t116⟩, A50, H⟩ := H
      replace H : (if x3_1.length < 1466015503701 then (knelllaw11_Ofs.l0 k1 (x3_1 ++ [(⟨t105, t106, t107, (⟨t108, t109⟩ : S34), (⟨t110, t111⟩ : S34), t112, t113, t114, t115, t116⟩ : S54)]) l0 (l0.length : Int) (wrap64 (x8_1 + 1))) else (none)) = some r := H
      have A5 := Aside0.mk A50
      clear A50
      by_cases c6 : x3_1.length < 1466015503701
      ·rw [if_pos c6] at H
       have LMc6 := Aside0.mk c6
       clear c6
       obtain ⟨y117, hy117⟩ : ∃ y_ : List (S54), y_ = (x3_1 ++ [(⟨t105, t106, t107, (⟨t108, t109⟩ : S34), (⟨t110, t111⟩ : S34), t112, t113, t114, t115, t116⟩ : S54)]) := ⟨_, rfl⟩
       replace H : (knelllaw11_Ofs.l0 k1 y117 l0 (l0.length : Int) (wrap64 (x8_1 + 1))) = some r := by first | (rw [hy117]; with_reducible exact H) | (have H2_ := (Option.bind_some _ _).symm.trans H; rw [hy117]; with_reducible exact H2_) | (have H2_ := (Option.bind_some _ _).symm.trans H; with_reducible exact H2_) | with_reducible exact H | (rw [hy117]; exact H) | exact H
       have Ny117 := Aside0.mk hy117
       clear hy117
       have H' := Aside0.mk H
       clear H
       have p103 : 0 ≤ (x8_1 : Int) := of_decide_eq_true (by first | (with_reducible assumption) | assumption)
       have q103 : x8_1 < (l0.length : Int) := of_decide_eq_true (by first | (with_reducible assumption) | assumption)
       obtain ⟨ad103, e103, hx103_0, hx103_1, hx103_2, hx103_3, hx103_4, hx103_5, hx103_6, hx103_7, hx103_8, hx103_9, hx103_10, hx103_11⟩ := at_T50 HR0.out x8_1 p103 q103
       cases e103
       replace hx103_0 := (HB.out.cell (World.block_lt_of_cell? w _ hx103_0)).trans hx103_0
       replace hx103_1 := (HB.out.cell (World.block_lt_of_cell? w _ hx103_1)).trans hx103_1
       replace hx103_2 := (HB.out.cell (World.block_lt_of_cell? w _ hx103_2)).trans hx103_2
       replace hx103_3 := (HB.out.cell (World.block_lt_of_cell? w _ hx103_3)).trans hx103_3
       replace hx103_4 := (HB.out.cell (World.block_lt_of_cell? w _ hx103_4)).trans hx103_4
       replace hx103_5 := (HB.out.cell (World.block_lt_of_cell? w _ hx103_5)).trans hx103_5
       replace hx103_6 := (HB.out.cell (World.block_lt_of_cell? w _ hx103_6)).trans hx103_6
       replace hx103_7 := (HB.out.cell (World.block_lt_of_cell? w _ hx103_7)).trans hx103_7
       replace hx103_8 := (HB.out.cell (World.block_lt_of_cell? w _ hx103_8)).trans hx103_8
       replace hx103_9 := (HB.out.cell (World.block_lt_of_cell? w _ hx103_9)).trans hx103_9
       replace hx103_10 := (HB.out.cell (World.block_lt_of_cell? w _ hx103_10)).trans hx103_10
       replace hx103_11 := (HB.out.cell (World.block_lt_of_cell? w _ hx103_11)).trans hx103_11
       replace p103 := eq_true p103
       replace q103 := eq_true q103
       go_wp2_with (first | ((with_reducible refine gate_dst (N := 5) rfl ?_); refine box_event ?hg (N := 5) ?hd (cs := #[.int .i64 0, .int .i64 0, .int .i64 0, .int .i64 0, .int .i64 0, .int .i64 0, .int .i64 0, .int .i64 0, .int .i64 0, .int .i64 0, .bool false, .int .i64 0]) (t := 50) ?hr ?_; (case hd => rfl); (case hg => rfl); (case hr => first | (go_simp; done) | (go_simp; rfl)); intro gb104 hg w7 hbox hb; have n0_ := Aside0.mk (Kd.R_below (by (with_reducible repeat (first | apply Kd.R_alloc | apply Kd.R_drewN | apply Kd.R_drew)); exact HO_3.out) hb); have n1_ := Aside0.mk (below_step (by repeat (first | (with_reducible first | exact HB.out | apply below_alloc | apply pw_below_drewN | apply below_drew1) | exact HB.out)) hb); have n2_ := Aside0.mk (hbox); have n3_ := Aside0.mk ((by rw [hg]; exact (below_size (by repeat (first | (with_reducible first | exact HB.out | apply below_alloc | apply pw_below_drewN | apply below_drew1) | exact HB.out))) : w.heap.size ≤ gb104)); have n4_ := Aside0.mk ((by rw [hg]; exact (below_size (by repeat (first | (with_reducible first | exact HB.out | apply below_alloc | apply pw_below_drewN | apply below_drew1) | exact HB.out))) : w.heap.size ≤ gb104)); clear HO_3; clear HB; have HO_3 := n0_; have HB := n1_; have BK104 := n2_; have GW104 := n3_; have GE104 := n4_; clear n0_ n1_ n2_ n3_ n4_; clear hb hbox hg; have hcz8_0 : w7.cell? ⟨gb104, 0, none⟩ = some (.int .i64 0) := (blk_cell BK104.out 0).trans rfl; have hcz8_1 : w7.cell? ⟨gb104, 1, none⟩ = some (.int .i64 0) := (blk_cell BK104.out 1).trans rfl; have hcz8_2 : w7.cell? ⟨gb104, 2, none⟩ = some (.int .i64 0) := (blk_cell BK104.out 2).trans rfl; have hcz8_3 : w7.cell? ⟨gb104, 3, none⟩ = some (.int .i64 0) := (blk_cell BK104.out 3).trans rfl; have hcz8_4 : w7.cell? ⟨gb104, 4, none⟩ = some (.int .i64 0) := (blk_cell BK104.out 4).trans rfl; have hcz8_5 : w7.cell? ⟨gb104, 5, none⟩ = some (.int .i64 0) := (blk_cell BK104.out 5).trans rfl; have hcz8_6 : w7.cell? ⟨gb104, 6, none⟩ = some (.int .i64 0) := (blk_cell BK104.out 6).trans rfl; have hcz8_7 : w7.cell? ⟨gb104, 7, none⟩ = some (.int .i64 0) := (blk_cell BK104.out 7).trans rfl; have hcz8_8 : w7.cell? ⟨gb104, 8, none⟩ = some (.int .i64 0) := (blk_cell BK104.out 8).trans rfl; have hcz8_9 : w7.cell? ⟨gb104, 9, none⟩ = some (.int .i64 0) := (blk_cell BK104.out 9).trans rfl; have hcz8_10 : w7.cell? ⟨gb104, 10, none⟩ = some (.bool false) := (blk_cell BK104.out 10).trans rfl; have hcz8_11 : w7.cell? ⟨gb104, 11, none⟩ = some (.int .i64 0) := (blk_cell BK104.out 11).trans rfl; have hfz8_0 := blk_frozen BK104.out 0; have hfz8_1 := blk_frozen BK104.out 1; have hfz8_2 := blk_frozen BK104.out 2; have hfz8_3 := blk_frozen BK104.out 3; have hfz8_4 := blk_frozen BK104.out 4; have hfz8_5 := blk_frozen BK104.out 5; have hfz8_6 := blk_frozen BK104.out 6; have hfz8_7 := blk_frozen BK104.out 7; have hfz8_8 := blk_frozen BK104.out 8; have hfz8_9 := blk_frozen BK104.out 9; have hfz8_10 := blk_frozen BK104.out 10; have hfz8_11 := blk_frozen BK104.out 11) | ((with_reducible refine gate_callee (f := 30) rfl ?_); refine goesL_ (some 14) rfl rfl Try.func30 (by kernel_rfl) rfl #[.agg #[.int .i64 ((rd_T50 l0 x8_1).f0), .int .i64 ((rd_T50 l0 x8_1).f1), .int .i64 ((rd_T50 l0 x8_1).f2), .int .i64 ((rd_T50 l0 x8_1).f3.f0), .int .i64 ((rd_T50 l0 x8_1).f3.f1), .int .i64 ((rd_T50 l0 x8_1).f4.f0), .int .i64 ((rd_T50 l0 x8_1).f4.f1), .int .i64 ((rd_T50 l0 x8_1).f5), .int .i64 ((rd_T50 l0 x8_1).f6), .int .i64 ((rd_T50 l0 x8_1).f7), .bool ((rd_T50 l0 x8_1).f8), .int .i64 ((rd_T50 l0 x8_1).f9)]] rfl (by (try simp only [List.map_toArray, List.map_cons, List.map_nil]); first | done | rfl | (simp only [List.length_drop, List.length_take]; rfl)) ?_; (with_reducible refine (knelllaw11_Of.calls ((rd_T50 l0 x8_1).f0) ((rd_T50 l0 x8_1).f1) ((rd_T50 l0 x8_1).f2) ((rd_T50 l0 x8_1).f3.f0) ((rd_T50 l0 x8_1).f3.f1) ((rd_T50 l0 x8_1).f4.f0) ((rd_T50 l0 x8_1).f4.f1) ((rd_T50 l0 x8_1).f5) ((rd_T50 l0 x8_1).f6) ((rd_T50 l0 x8_1).f7) ((rd_T50 l0 x8_1).f8) ((rd_T50 l0 x8_1).f9) t105 t106 t107 t108 t109 t110 t111 t112 t113 t114 t115 t116 _ A5.out).mono ?_); rintro e w9 ⟨rfl, hb⟩; refine ⟨_, rfl, ?_⟩; have n0_ := Aside0.mk (Kd.R_below (by (with_reducible repeat (first | apply Kd.R_alloc | apply Kd.R_drewN | apply Kd.R_drew)); exact (Kd.R_mono (Kd.R_far (p := ⟨gb104, 11, none⟩) (Kd.R_far (p := ⟨gb104, 10, none⟩) (Kd.R_far (p := ⟨gb104, 9, none⟩) (Kd.R_far (p := ⟨gb104, 8, none⟩) (Kd.R_far (p := ⟨gb104, 7, none⟩) (Kd.R_far (p := ⟨gb104, 6, none⟩) (Kd.R_far (p := ⟨gb104, 5, none⟩) (Kd.R_far (p := ⟨gb104, 4, none⟩) (Kd.R_far (p := ⟨gb104, 3, none⟩) (Kd.R_far (p := ⟨gb104, 2, none⟩) (Kd.R_far (p := ⟨gb104, 1, none⟩) (Kd.R_far (p := ⟨gb104, 0, none⟩) (Kd.R_types HO_3.out BK104.out (by decide)) (fun _ hk => hk.2) (.int .i64 ((rd_T50 l0 x8_1).f0))) (fun _ hk => hk.2) (.int .i64 ((rd_T50 l0 x8_1).f1))) (fun _ hk => hk.2) (.int .i64 ((rd_T50 l0 x8_1).f2))) (fun _ hk => hk.2) (.int .i64 ((rd_T50 l0 x8_1).f3.f0))) (fun _ hk => hk.2) (.int .i64 ((rd_T50 l0 x8_1).f3.f1))) (fun _ hk => hk.2) (.int .i64 ((rd_T50 l0 x8_1).f4.f0))) (fun _ hk => hk.2) (.int .i64 ((rd_T50 l0 x8_1).f4.f1))) (fun _ hk => hk.2) (.int .i64 ((rd_T50 l0 x8_1).f5))) (fun _ hk => hk.2) (.int .i64 ((rd_T50 l0 x8_1).f6))) (fun _ hk => hk.2) (.int .i64 ((rd_T50 l0 x8_1).f7))) (fun _ hk => hk.2) (.bool ((rd_T50 l0 x8_1).f8))) (fun _ hk => hk.2) (.int .i64 ((rd_T50 l0 x8_1).f9))) (fun _ h_ => h_.1))) hb); have n1_ := Aside0.mk (blk_below (g := gb104) (o := .cells #[.int .i64 ((rd_T50 l0 x8_1).f0), .int .i64 ((rd_T50 l0 x8_1).f1), .int .i64 ((rd_T50 l0 x8_1).f2), .int .i64 ((rd_T50 l0 x8_1).f3.f0), .int .i64 ((rd_T50 l0 x8_1).f3.f1), .int .i64 ((rd_T50 l0 x8_1).f4.f0), .int .i64 ((rd_T50 l0 x8_1).f4.f1), .int .i64 ((rd_T50 l0 x8_1).f5), .int .i64 ((rd_T50 l0 x8_1).f6), .int .i64 ((rd_T50 l0 x8_1).f7), .bool ((rd_T50 l0 x8_1).f8), .int .i64 ((rd_T50 l0 x8_1).f9)] 50 (0, 0)) (by (with_reducible repeat (first | refine blk_drewN ?_ _ | refine blk_drew ?_ | refine blk_alloc ?_ _)); refine blk_put (cs := #[.int .i64 ((rd_T50 l0 x8_1).f0), .int .i64 ((rd_T50 l0 x8_1).f1), .int .i64 ((rd_T50 l0 x8_1).f2), .int .i64 ((rd_T50 l0 x8_1).f3.f0), .int .i64 ((rd_T50 l0 x8_1).f3.f1), .int .i64 ((rd_T50 l0 x8_1).f4.f0), .int .i64 ((rd_T50 l0 x8_1).f4.f1), .int .i64 ((rd_T50 l0 x8_1).f5), .int .i64 ((rd_T50 l0 x8_1).f6), .int .i64 ((rd_T50 l0 x8_1).f7), .bool ((rd_T50 l0 x8_1).f8), .int .i64 0]) ?_ 11 _ rfl; (with_reducible repeat (first | refine blk_drewN ?_ _ | refine blk_drew ?_ | refine blk_alloc ?_ _)); refine blk_put (cs := #[.int .i64 ((rd_T50 l0 x8_1).f0), .int .i64 ((rd_T50 l0 x8_1).f1), .int .i64 ((rd_T50 l0 x8_1).f2), .int .i64 ((rd_T50 l0 x8_1).f3.f0), .int .i64 ((rd_T50 l0 x8_1).f3.f1), .int .i64 ((rd_T50 l0 x8_1).f4.f0), .int .i64 ((rd_T50 l0 x8_1).f4.f1), .int .i64 ((rd_T50 l0 x8_1).f5), .int .i64 ((rd_T50 l0 x8_1).f6), .int .i64 ((rd_T50 l0 x8_1).f7), .bool false, .int .i64 0]) ?_ 10 _ rfl; (with_reducible repeat (first | refine blk_drewN ?_ _ | refine blk_drew ?_ | refine blk_alloc ?_ _)); refine blk_put (cs := #[.int .i64 ((rd_T50 l0 x8_1).f0), .int .i64 ((rd_T50 l0 x8_1).f1), .int .i64 ((rd_T50 l0 x8_1).f2), .int .i64 ((rd_T50 l0 x8_1).f3.f0), .int .i64 ((rd_T50 l0 x8_1).f3.f1), .int .i64 ((rd_T50 l0 x8_1).f4.f0), .int .i64 ((rd_T50 l0 x8_1).f4.f1), .int .i64 ((rd_T50 l0 x8_1).f5), .int .i64 ((rd_T50 l0 x8_1).f6), .int .i64 0, .bool false, .int .i64 0]) ?_ 9 _ rfl; (with_reducible repeat (first | refine blk_drewN ?_ _ | refine blk_drew ?_ | refine blk_alloc ?_ _)); refine blk_put (cs := #[.int .i64 ((rd_T50 l0 x8_1).f0), .int .i64 ((rd_T50 l0 x8_1).f1), .int .i64 ((rd_T50 l0 x8_1).f2), .int .i64 ((rd_T50 l0 x8_1).f3.f0), .int .i64 ((rd_T50 l0 x8_1).f3.f1), .int .i64 ((rd_T50 l0 x8_1).f4.f0), .int .i64 ((rd_T50 l0 x8_1).f4.f1), .int .i64 ((rd_T50 l0 x8_1).f5), .int .i64 0, .int .i64 0, .bool false, .int .i64 0]) ?_ 8 _ rfl; (with_reducible repeat (first | refine blk_drewN ?_ _ | refine blk_drew ?_ | refine blk_alloc ?_ _)); refine blk_put (cs := #[.int .i64 ((rd_T50 l0 x8_1).f0), .int .i64 ((rd_T50 l0 x8_1).f1), .int .i64 ((rd_T50 l0 x8_1).f2), .int .i64 ((rd_T50 l0 x8_1).f3.f0), .int .i64 ((rd_T50 l0 x8_1).f3.f1), .int .i64 ((rd_T50 l0 x8_1).f4.f0), .int .i64 ((rd_T50 l0 x8_1).f4.f1), .int .i64 0, .int .i64 0, .int .i64 0, .bool false, .int .i64 0]) ?_ 7 _ rfl; (with_reducible repeat (first | refine blk_drewN ?_ _ | refine blk_drew ?_ | refine blk_alloc ?_ _)); refine blk_put (cs := #[.int .i64 ((rd_T50 l0 x8_1).f0), .int .i64 ((rd_T50 l0 x8_1).f1), .int .i64 ((rd_T50 l0 x8_1).f2), .int .i64 ((rd_T50 l0 x8_1).f3.f0), .int .i64 ((rd_T50 l0 x8_1).f3.f1), .int .i64 ((rd_T50 l0 x8_1).f4.f0), .int .i64 0, .int .i64 0, .int .i64 0, .int .i64 0, .bool false, .int .i64 0]) ?_ 6 _ rfl; (with_reducible repeat (first | refine blk_drewN ?_ _ | refine blk_drew ?_ | refine blk_alloc ?_ _)); refine blk_put (cs := #[.int .i64 ((rd_T50 l0 x8_1).f0), .int .i64 ((rd_T50 l0 x8_1).f1), .int .i64 ((rd_T50 l0 x8_1).f2), .int .i64 ((rd_T50 l0 x8_1).f3.f0), .int .i64 ((rd_T50 l0 x8_1).f3.f1), .int .i64 0, .int .i64 0, .int .i64 0, .int .i64 0, .int .i64 0, .bool false, .int .i64 0]) ?_ 5 _ rfl; (with_reducible repeat (first | refine blk_drewN ?_ _ | refine blk_drew ?_ | refine blk_alloc ?_ _)); refine blk_put (cs := #[.int .i64 ((rd_T50 l0 x8_1).f0), .int .i64 ((rd_T50 l0 x8_1).f1), .int .i64 ((rd_T50 l0 x8_1).f2), .int .i64 ((rd_T50 l0 x8_1).f3.f0), .int .i64 0, .int .i64 0, .int .i64 0, .int .i64 0, .int .i64 0, .int .i64 0, .bool false, .int .i64 0]) ?_ 4 _ rfl; (with_reducible repeat (first | refine blk_drewN ?_ _ | refine blk_drew ?_ | refine blk_alloc ?_ _)); refine blk_put (cs := #[.int .i64 ((rd_T50 l0 x8_1).f0), .int .i64 ((rd_T50 l0 x8_1).f1), .int .i64 ((rd_T50 l0 x8_1).f2), .int .i64 0, .int .i64 0, .int .i64 0, .int .i64 0, .int .i64 0, .int .i64 0, .int .i64 0, .bool false, .int .i64 0]) ?_ 3 _ rfl; (with_reducible repeat (first | refine blk_drewN ?_ _ | refine blk_drew ?_ | refine blk_alloc ?_ _)); refine blk_put (cs := #[.int .i64 ((rd_T50 l0 x8_1).f0), .int .i64 ((rd_T50 l0 x8_1).f1), .int .i64 0, .int .i64 0, .int .i64 0, .int .i64 0, .int .i64 0, .int .i64 0, .int .i64 0, .int .i64 0, .bool false, .int .i64 0]) ?_ 2 _ rfl; (with_reducible repeat (first | refine blk_drewN ?_ _ | refine blk_drew ?_ | refine blk_alloc ?_ _)); refine blk_put (cs := #[.int .i64 ((rd_T50 l0 x8_1).f0), .int .i64 0, .int .i64 0, .int .i64 0, .int .i64 0, .int .i64 0, .int .i64 0, .int .i64 0, .int .i64 0, .int .i64 0, .bool false, .int .i64 0]) ?_ 1 _ rfl; (with_reducible repeat (first | refine blk_drewN ?_ _ | refine blk_drew ?_ | refine blk_alloc ?_ _)); refine blk_put (cs := #[.int .i64 0, .int .i64 0, .int .i64 0, .int .i64 0, .int .i64 0, .int .i64 0, .int .i64 0, .int .i64 0, .int .i64 0, .int .i64 0, .bool false, .int .i64 0]) ?_ 0 _ rfl; (with_reducible repeat (first | refine blk_drewN ?_ _ | refine blk_drew ?_ | refine blk_alloc ?_ _)); exact BK104.out) hb); have n2_ := Aside0.mk (below_step (by repeat (first | (with_reducible first | exact HB.out | apply below_alloc | apply pw_below_drewN | apply below_drew1 | refine below_set ?_ GE104.out) | exact HB.out)) hb); clear HO_3; clear BK104; clear HB; have HO_3 := n0_; have BK104 := n1_; have HB := n2_; clear n0_ n1_ n2_; (try clear hb); (try clear hb2); (try clear hk); (try clear hi)) | ((with_reducible refine gate_builtin (b := .append) (xs := #[.tmp 12, .tmp 15]) rfl ?_); at_builtin; refine Kd.R_append k54 (w0 := w) w.heap.size rfl (.tmp 12) (.tmp 15) 24 54 (.agg #[(.int .i64 0), (.int .i64 0), (.int .i64 0), (.int .i64 0), (.int .i64 0), (.int .i64 0), (.int .i64 0), (.int .i64 0), (.int .i64 0), (.int .i64 0), (.bool false), (.int .i64 0)]) 96 rfl Try.underlying24 info54 rfl (by decide) (by omega) u3 x3_1 (⟨t105, t106, t107, (⟨t108, t109⟩ : S34), (⟨t110, t111⟩ : S34), t112, t113, t114, t115, t116⟩ : S54) [.int .i64 t105, .int .i64 t106, .int .i64 t107, .int .i64 t108, .int .i64 t109, .int .i64 t110, .int .i64 t111, .int .i64 t112, .int .i64 t113, .int .i64 t114, .bool t115, .int .i64 t116] (fun _ => True) (fun _ => False) rfl rfl ?aP (fun _ hk => hk.elim) ?aF ?aO ?aB ?aS ?aL ?_; (case aP => exact k54_mkM _ _ _ (⟨t105, t106, t107, (⟨t108, t109⟩ : S34), (⟨t110, t111⟩ : S34), t112, t113, t114, t115, t116⟩ : S54)); (case aB => exact (by repeat (first | (with_reducible first | exact HB.out | apply below_alloc | apply pw_below_drewN | apply below_drew1 | refine below_set ?_ GE104.out) | exact HB.out))); (case aF => exact (fun _ _ => trivial)); (case aO => exact (by (with_reducible repeat (first | apply Kd.R_alloc | apply Kd.R_drewN | apply Kd.R_drew)); exact HO_3.out)); (case aS => exact (below_size (by repeat (first | (with_reducible first | exact HB.out | apply below_alloc | apply pw_below_drewN | apply below_drew1 | refine below_set ?_ GE104.out) | exact HB.out)))); (case aL => have := LMc6.out; omega); intro v118 w10 ho hb hg hat; rw [← Ny117.out] at ho; have n0_ := Aside0.mk (blk_grown (g := gb104) (o := .cells #[.int .i64 ((rd_T50 l0 x8_1).f0), .int .i64 ((rd_T50 l0 x8_1).f1), .int .i64 ((rd_T50 l0 x8_1).f2), .int .i64 ((rd_T50 l0 x8_1).f3.f0), .int .i64 ((rd_T50 l0 x8_1).f3.f1), .int .i64 ((rd_T50 l0 x8_1).f4.f0), .int .i64 ((rd_T50 l0 x8_1).f4.f1), .int .i64 ((rd_T50 l0 x8_1).f5), .int .i64 ((rd_T50 l0 x8_1).f6), .int .i64 ((rd_T50 l0 x8_1).f7), .bool ((rd_T50 l0 x8_1).f8), .int .i64 ((rd_T50 l0 x8_1).f9)] 50 (0, 0)) (by (with_reducible repeat (first | refine blk_drewN ?_ _ | refine blk_drew ?_ | refine blk_alloc ?_ _)); exact BK104.out) hg (Kd.R_ne HO_3.out BK104.out (by decide))); have n1_ := Aside0.mk (hb); have n2_ := Aside0.mk (ho); clear BK104; clear HB; clear HO_3; have BK104 := n0_; have HB := n1_; have HO119 := n2_; clear n0_ n1_ n2_; clear ho hb hg hat))
       go_roundg k1
       case measure => have := HK1.out; omega
       case rel => exact ⟨(y117), (wrap64 (x8_1 + 1)), (by first | rfl | (simp; done) | (simp [*]; done)), H', ⟨by have := HK1.out; omega⟩, ⟨by (with_reducible repeat (first | apply Kd.R_alloc | apply Kd.R_drewN | apply Kd.R_drew)); exact HO119.out⟩, ⟨by repeat (first | (with_reducible first | exact HB.out | apply below_alloc | apply pw_below_drewN | apply below_drew1 | refine below_set ?_ GE104.out) | exact HB.out)⟩⟩
      ·rw [if_neg c6] at H
       exact absurd H (by simp)
     ·rw [if_neg c4] at H
      exact absurd H (by simp)
    ·rw [if_neg c3] at H
     exact absurd H (by simp)
   ·rw [if_neg c2] at H
    have c2b0 : decide (x8_1 < (l0.length : Int)) = false := decide_eq_false c2
    clear c2
    obtain rfl := Option.some.inj H
    go_wp2
    go_ret
    exact ⟨_, by first | rfl | (simp [errW_none, errW_some] <;> rfl) | (simp [*, errW_none, errW_some] <;> rfl), by (with_reducible repeat (first | apply Kd.R_alloc | apply Kd.R_drewN | apply Kd.R_drew)); exact HO_3.out, by repeat (first | (with_reducible first | exact HB.out | apply below_alloc | apply pw_below_drewN | apply below_drew1) | exact HB.out)⟩
def knelllaw13_speaks.f : Option Bool := some true
theorem knelllaw13_speaks.calls (r1 : Bool) (w : World) (h : knelllaw13_speaks.f = some r1) :
  Calls Try.prog 25 #[] w fun e w' => e = .returned (.bool r1) ∧ Below w.heap.size w w' := by
 have e := Option.some.inj h
 rw [← e]
 exact Go.Proofs.Ythniclbmpeklmaa.Ju.speaks_any w
def judge_Judge.ev (x : S54) : Go.Proofs.Ythniclbmpeklmaa.Au.Ev := ⟨x.f0, x.f1, x.f2, x.f3.f0, x.f3.f1, x.f4.f0, x.f4.f1, x.f5, x.f6, x.f7, x.f8, x.f9⟩
def judge_Judge.f (l0 : List S54) (a1 : Int) : Option (Int × Int) := if l0.length ≤ 200000 ∧ (l0.all fun x => Go.Proofs.Ythniclbmpeklmaa.Ju.wfB' (judge_Judge.ev x)) = true then some (Go.Proofs.Ythniclbmpeklmaa.Ju.judgeF (l0.map judge_Judge.ev) a1) else none
theorem judge_Judge.calls (A0 : Option Addr) (c0 : Nat) (l0 : List S54) (a1 : Int) (r1 : Int) (r2 : Int) (w : World) (hr0 : Kd.C k54 w A0 l0.length l0) (hc0 : l0.length ≤ c0) (h : judge_Judge.f l0 a1 = some (r1, r2)) :
  Calls Try.prog 37 #[.slice A0 l0.length c0, .int .i64 a1] w fun e w' => e = .returned (.tuple #[.int .i64 r1, .int .i64 r2]) ∧ Below w.heap.size w w' := by
 unfold judge_Judge.f at h
 split at h
 ·rename_i hs
  have h1 := Go.Proofs.Ythniclbmpeklmaa.Ju.judge_any A0 c0 a1 (l0.map judge_Judge.ev) (by rw [List.length_map]; exact hs.1) w (fun i e he => by
   rw [List.getElem?_map] at he
   obtain ⟨x, hx, rfl⟩ := Option.map_eq_some_iff.1 he
   have hi : i < l0.length := (List.getElem?_eq_some_iff.1 hx).1
   have hrd : rd_T54 l0 (i : Int) = x := by
    show l0.getD i z54 = x
    rw [List.getD_eq_getElem?_getD, hx]; rfl
   have hat := at_T54 hr0 (i : Int) (by omega) (by omega)
   rw [hrd] at hat
   exact hat) (fun e he => by
   obtain ⟨x, hx, rfl⟩ := List.mem_map.1 he
   exact Go.Proofs.Ythniclbmpeklmaa.Ju.wfJ_of (List.all_eq_true.1 hs.2 x hx))
  rw [List.length_map] at h1
  rw [Option.some.inj h] at h1
  exact h1
 ·cases h
def knellref13_Judge.ev (x : S50) : Go.Proofs.Ythniclbmpeklmaa.Au.Ev := ⟨x.f0, x.f1, x.f2, x.f3.f0, x.f3.f1, x.f4.f0, x.f4.f1, x.f5, x.f6, x.f7, x.f8, x.f9⟩
def knellref13_Judge.f (l0 : List S50) (a1 : Int) : Option (Int × Int) := if l0.length ≤ 1000 ∧ (l0.all fun x => (Lit.int .i64 x.f3.f1).wf && decide (x.f5 ≤ 9223372036854775807)) = true then some (Go.Proofs.Ythniclbmpeklmaa.Ju.judgeF (l0.map knellref13_Judge.ev) a1) else none
theorem knellref13_Judge.calls (A0 : Option Addr) (c0 : Nat) (l0 : List S50) (a1 : Int) (r1 : Int) (r2 : Int) (w : World) (hr0 : Kd.C k50 w A0 l0.length l0) (hc0 : l0.length ≤ c0) (h : knellref13_Judge.f l0 a1 = some (r1, r2)) :
  Calls Try.prog 38 #[.slice A0 l0.length c0, .int .i64 a1] w fun e w' => e = .returned (.tuple #[.int .i64 r1, .int .i64 r2]) ∧ Below w.heap.size w w' := by
 unfold knellref13_Judge.f at h
 split at h
 ·rename_i hs
  have h1 := Go.Proofs.Ythniclbmpeklmaa.KJf.rjudge_any A0 c0 a1 (l0.map knellref13_Judge.ev) (by rw [List.length_map]; exact hs.1) w (fun i e he => by
   rw [List.getElem?_map] at he
   obtain ⟨x, hx, rfl⟩ := Option.map_eq_some_iff.1 he
   have hi : i < l0.length := (List.getElem?_eq_some_iff.1 hx).1
   have hrd : rd_T50 l0 (i : Int) = x := by
    show l0.getD i z50 = x
    rw [List.getD_eq_getElem?_getD, hx]; rfl
   have hat := at_T50 hr0 (i : Int) (by omega) (by omega)
   rw [hrd] at hat
   exact hat) (fun e he => by
   obtain ⟨x, hx, rfl⟩ := List.mem_map.1 he
   have q := List.all_eq_true.1 hs.2 x hx
   rw [Bool.and_eq_true, decide_eq_true_eq] at q
   exact q)
  rw [List.length_map] at h1
  rw [Option.some.inj h] at h1
  exact h1
 ·cases h
def knelllaw13_JudgeFirst.j0 : Nat → Int → List (S50) → Bool → Option (Bool)
 | 0, _, _, _ => none
 | k + 1, x0, x1, x15 => if x15 = true then ((knelllaw13_speaks.f).bind fun t121 => (some t121)) else ((knelllaw11_Ofs.f k x1).bind fun t122 => ((judge_Judge.f t122 x0).bind fun bt125 => ((knellref13_Judge.f x1 x0).bind fun bt127 => (if bt125.1 = bt127.1 then (some (bt125.2 == bt127.2)) else (some false)))))
def knelllaw13_JudgeFirst.f (k : Nat) (a0 : Int) (l1 : List (S50)) : Option (Bool) := (knelllaw13_speaks.f).bind fun t120 => (if t120 = true then (knelllaw13_JudgeFirst.j0 k a0 l1 (decide ((l1.length : Int) > 60))) else (knelllaw13_JudgeFirst.j0 k a0 l1 true))
theorem knelllaw13_JudgeFirst.calls (k : Nat) (a0 : Int) (A1 : Option Addr) (c1 : Nat) (l1 : List (S50)) (r : Bool) (w : World) (hr1 : Kd.C k50 w A1 l1.length l1) (hc1 : l1.length ≤ c1) (h : knelllaw13_JudgeFirst.f k a0 l1 = some r) :
  Calls Try.prog 7 #[.int .i64 a0, .slice A1 l1.length c1] w fun e w' => e = .returned (.bool r) ∧ Below w.heap.size w w' := by
 have HR1 := Aside0.mk hr1
 have HC1 := Aside0.mk hc1
 clear hr1 hc1
 have HB := Aside0.mk (Below.refl w.heap.size w)
 have H : ((knelllaw13_speaks.f).bind fun t120 => (if t120 = true then (knelllaw13_JudgeFirst.j0 k a0 l1 (decide ((l1.length : Int) > 60))) else (knelllaw13_JudgeFirst.j0 k a0 l1 true))) = some r := h
 clear h
 have HC3 := Aside0.mk H
 clear H
 go_enter Try.func7, Try.ntmps7
 go_upto_region 1 with (fail)
 go_cut [15] (fun v15 wc => ∃ (kq : Nat) (x15_2 : Bool), v15 = .bool x15_2 ∧ Aside0 (knelllaw13_JudgeFirst.j0 kq a0 l1 x15_2 = some r) ∧ Aside0 (kq ≤ k) ∧ Aside0 (Below w.heap.size w wc))
 case first =>
  have H := HC3.out
  clear HC3
  replace H := Option.bind_eq_some_iff.mp H
  obtain ⟨t120, A40, H⟩ := H
  replace H : (if t120 = true then (knelllaw13_JudgeFirst.j0 k a0 l1 (decide ((l1.length : Int) > 60))) else (knelllaw13_JudgeFirst.j0 k a0 l1 true)) = some r := H
  have A4 := Aside0.mk A40
  clear A40
  by_cases c5 : t120 = true
  ·subst c5
   have H1 : (knelllaw13_JudgeFirst.j0 k a0 l1 (decide ((l1.length : Int) > 60))) = some r := by rw [if_pos rfl] at H; exact H
   clear H
   have H := H1
   clear H1
   have H' := Aside0.mk H
   clear H
   go_wp2_with (first | ((with_reducible refine gate_callee (f := 25) rfl ?_); refine goesL_ (some 9) rfl rfl Try.func25 (by kernel_rfl) rfl #[] rfl (by (try simp only [List.map_toArray, List.map_cons, List.map_nil]); first | done | rfl | (simp only [List.length_drop, List.length_take]; rfl)) ?_; (with_reducible refine (knelllaw13_speaks.calls  true _ A4.out).mono ?_); rintro e w6 ⟨rfl, hb⟩; refine ⟨_, rfl, ?_⟩; have n0_ := Aside0.mk (below_step (by repeat (first | (with_reducible first | exact HB.out | apply below_alloc | apply pw_below_drewN | apply below_drew1) | exact HB.out)) hb); clear HB; have HB := n0_; clear n0_; (try clear hb); (try clear hb2); (try clear hk); (try clear hi)))
   go_meet
   case rel => exact ⟨_, (decide ((l1.length : Int) > 60)), (by first | rfl | (simp; done) | (simp [*]; done)), H', ⟨by first | omega | exact Nat.le_refl _⟩, ⟨by repeat (first | (with_reducible first | exact HB.out | apply below_alloc | apply pw_below_drewN | apply below_drew1) | exact HB.out)⟩⟩
  ·replace c5 := Bool.eq_false_iff.mpr c5
   subst c5
   have H1 : (knelllaw13_JudgeFirst.j0 k a0 l1 true) = some r := by rw [if_neg (show ¬ (false = true) by decide)] at H; exact H
   clear H
   have H := H1
   clear H1
   have H' := Aside0.mk H
   clear H
   go_wp2_with (first | ((with_reducible refine gate_callee (f := 25) rfl ?_); refine goesL_ (some 9) rfl rfl Try.func25 (by kernel_rfl) rfl #[] rfl (by (try simp only [List.map_toArray, List.map_cons, List.map_nil]); first | done | rfl | (simp only [List.length_drop, List.length_take]; rfl)) ?_; (with_reducible refine (knelllaw13_speaks.calls  false _ A4.out).mono ?_); rintro e w7 ⟨rfl, hb⟩; refine ⟨_, rfl, ?_⟩; have n0_ := Aside0.mk (below_step (by repeat (first | (with_reducible first | exact HB.out | apply below_alloc | apply pw_below_drewN | apply below_drew1) | exact HB.out)) hb); clear HB; have HB := n0_; clear n0_; (try clear hb); (try clear hb2); (try clear hk); (try clear hi)))
   go_meet
   case rel => exact ⟨_, (true), (by first | rfl | (simp; done) | (simp [*]; done)), H', ⟨by first | omega | exact Nat.le_refl _⟩, ⟨by repeat (first | (with_reducible first | exact HB.out | apply below_alloc | apply pw_below_drewN | apply below_drew1) | exact HB.out)⟩⟩
 case rest =>
  clear HC3
  try clear c1
  try clear c2
  try clear p2
  try clear c5
  try clear c7
  obtain ⟨kq, x15_2, rfl, HA, HJ2, HB⟩ := hcut
  cases kq with
  | zero => exact absurd HA.out (by simp [knelllaw13_JudgeFirst.j0])
  | succ kj2 =>
   have H := HA.out
   clear HA
   simp only [knelllaw13_JudgeFirst.j0] at H
   by_cases c8 : x15_2 = true
   ·subst c8
    have H1 : ((knelllaw13_speaks.f).bind fun t121 => (some t121)) = some r := by rw [if_pos rfl] at H; exact H
    clear H
    have H := H1
    clear H1
    replace H := Option.bind_eq_some_iff.mp H
    obtain ⟨t121, A90, H⟩ := H
    replace H : (some t121) = some r := H
    have A9 := Aside0.mk A90
    clear A90
    obtain rfl := Option.some.inj H
    go_wp2_with (first | ((with_reducible refine gate_callee (f := 25) rfl ?_); refine goesL_ (some 16) rfl rfl Try.func25 (by kernel_rfl) rfl #[] rfl (by (try simp only [List.map_toArray, List.map_cons, List.map_nil]); first | done | rfl | (simp only [List.length_drop, List.length_take]; rfl)) ?_; (with_reducible refine (knelllaw13_speaks.calls  t121 _ A9.out).mono ?_); rintro e w10 ⟨rfl, hb⟩; refine ⟨_, rfl, ?_⟩; have n0_ := Aside0.mk (below_step (by repeat (first | (with_reducible first | exact HB.out | apply below_alloc | apply pw_below_drewN | apply below_drew1) | exact HB.out)) hb); clear HB; have HB := n0_; clear n0_; (try clear hb); (try clear hb2); (try clear hk); (try clear hi)))
    go_ret
    exact ⟨by first | rfl | (simp [errW_none, errW_some] <;> rfl) | (simp [*, errW_none, errW_some] <;> rfl), by repeat (first | (with_reducible first | exact HB.out | apply below_alloc | apply pw_below_drewN | apply below_drew1) | exact HB.out)⟩
   ·replace c8 := Bool.eq_false_iff.mpr c8
    subst c8
    have H1 : ((knelllaw11_Ofs.f kj2 l1).bind fun t122 => ((judge_Judge.f t122 a0).bind fun bt125 => ((knellref13_Judge.f l1 a0).bind fun bt127 => (if bt125.1 = bt127.1 then (some (bt125.2 == bt127.2)) else (some false))))) = some r := by rw [if_neg (show ¬ (false = true) by decide)] at H; exact H
    clear H
    have H := H1
    clear H1
    replace H := Option.bind_eq_some_iff.mp H
    obtain ⟨t122, A110, H⟩ := H
    replace H : ((judge_Judge.f t122 a0).bind fun bt125 => ((knellref13_Judge.f l1 a0).bind fun bt127 => (if bt125.1 = bt127.1 then (some (bt125.2 == bt127.2)) else (some false)))) = some r := H
    have A11 := Aside0.mk A110
    clear A110
    replace H := Option.bind_eq_some_iff.mp H
    obtain ⟨⟨t125, t126⟩, A120, H⟩ := H
    replace H : ((knellref13_Judge.f l1 a0).bind fun bt127 => (if t125 = bt127.1 then (some (t126 == bt127.2)) else (some false))) = some r := H
    have A12 := Aside0.mk A120
    clear A120
    replace H := Option.bind_eq_some_iff.mp H
    obtain ⟨⟨t127, t128⟩, A130, H⟩ := H
    replace H : (if t125 = t127 then (some (t126 == t128)) else (some false)) = some r := H
    have A13 := Aside0.mk A130
    clear A130
    by_cases c14 : t125 = t127
    ·rw [if_pos c14] at H
     have c14b0 : (t125 == t127) = true := beq_iff_eq.mpr c14
     have c14b1 : (t125 != t127) = false := bne_eq_false_iff_eq.mpr c14
     clear c14
     obtain rfl := Option.some.inj H
     go_wp2_with (first | ((with_reducible refine gate_callee (f := 16) rfl ?_); refine goesL_ (some 19) rfl rfl Try.func16 (by kernel_rfl) rfl #[.slice A1 l1.length c1] rfl (by (try simp only [List.map_toArray, List.map_cons, List.map_nil]); first | done | rfl | (simp only [List.length_drop, List.length_take]; rfl)) ?_; (with_reducible refine (knelllaw11_Ofs.calls kj2 _ _ l1 t122 _ ?side1 ?side2 A11.out).mono ?_); (case side1 => repeat (first | exact (Kd.C_below HR1.out HB.out) | (with_reducible refine Kd.C_alloc ?_ _) | (with_reducible refine Kd.C_drewN ?_ _) | (with_reducible refine Kd.C_drew ?_))); (case side2 => exact HC1.out); rintro e w15 ⟨v123, rfl, ho0, hb⟩; refine ⟨_, rfl, ?_⟩; have n0_ := Aside0.mk (Kd.R_lower ho0 (below_size (by repeat (first | (with_reducible first | exact HB.out | apply below_alloc | apply pw_below_drewN | apply below_drew1) | exact HB.out)))); have n1_ := Aside0.mk (below_step (by repeat (first | (with_reducible first | exact HB.out | apply below_alloc | apply pw_below_drewN | apply below_drew1) | exact HB.out)) hb); clear HB; have HO124 := n0_; have HB := n1_; clear n0_ n1_; (try clear hb); (try clear hb2); (try clear hk); (try clear hi); (try clear ho0); obtain ⟨Ao16, co16, eo16⟩ := Kd.R_slice HO124.out; subst eo16) | ((with_reducible refine gate_callee (f := 37) rfl ?_); refine goesL_ (some 21) rfl rfl Try.func37 (by kernel_rfl) rfl #[.slice Ao16 t122.length co16, .int .i64 a0] rfl (by (try simp only [List.map_toArray, List.map_cons, List.map_nil]); first | done | rfl | (simp only [List.length_drop, List.length_take]; rfl)) ?_; (with_reducible refine (judge_Judge.calls _ _ t122 a0 t125 t126 _ ?side1 ?side2 A12.out).mono ?_); (case side1 => repeat (first | exact (Kd.R_reads' HO124.out).2.2 | (with_reducible refine Kd.C_alloc ?_ _) | (with_reducible refine Kd.C_drewN ?_ _) | (with_reducible refine Kd.C_drew ?_))); (case side2 => exact (Kd.R_reads' HO124.out).2.1); rintro e w17 ⟨rfl, hb⟩; refine ⟨_, rfl, ?_⟩; have n0_ := Aside0.mk (Kd.R_below (by (with_reducible repeat (first | apply Kd.R_alloc | apply Kd.R_drewN | apply Kd.R_drew)); exact HO124.out) hb); have n1_ := Aside0.mk (below_step (by repeat (first | (with_reducible first | exact HB.out | apply below_alloc | apply pw_below_drewN | apply below_drew1) | exact HB.out)) hb); clear HO124; clear HB; have HO124 := n0_; have HB := n1_; clear n0_ n1_; (try clear hb); (try clear hb2); (try clear hk); (try clear hi)) | ((with_reducible refine gate_callee (f := 38) rfl ?_); refine goesL_ (some 27) rfl rfl Try.func38 (by kernel_rfl) rfl #[.slice A1 l1.length c1, .int .i64 a0] rfl (by (try simp only [List.map_toArray, List.map_cons, List.map_nil]); first | done | rfl | (simp only [List.length_drop, List.length_take]; rfl)) ?_; (with_reducible refine (knellref13_Judge.calls _ _ l1 a0 t127 t128 _ ?side1 ?side2 A13.out).mono ?_); (case side1 => repeat (first | exact (Kd.C_below HR1.out HB.out) | (with_reducible refine Kd.C_alloc ?_ _) | (with_reducible refine Kd.C_drewN ?_ _) | (with_reducible refine Kd.C_drew ?_))); (case side2 => exact HC1.out); rintro e w18 ⟨rfl, hb⟩; refine ⟨_, rfl, ?_⟩; have n0_ := Aside0.mk (Kd.R_below (by (with_reducible repeat (first | apply Kd.R_alloc | apply Kd.R_drewN | apply Kd.R_drew)); exact HO124.out) hb); have n1_ := Aside0.mk (below_step (by repeat (first | (with_reducible first | exact HB.out | apply below_alloc | apply pw_below_drewN | apply below_drew1) | exact HB.out)) hb); clear HO124; clear HB; have HO124 := n0_; have HB := n1_; clear n0_ n1_; (try clear hb); (try clear hb2); (try clear hk); (try clear hi)))
     go_ret
     exact ⟨by first | rfl | (simp [errW_none, errW_some] <;> rfl) | (simp [*, errW_none, errW_some] <;> rfl), by repeat (first | (with_reducible first | exact HB.out | apply below_alloc | apply pw_below_drewN | apply below_drew1) | exact HB.out)⟩
    ·rw [if_neg c14] at H
     have c14b0 : (t125 == t127) = false := beq_eq_false_iff_ne.mpr c14
     have c14b1 : (t125 != t127) = true := bne_iff_ne.mpr c14
     obtain rfl := Option.some.inj H
     go_wp2_with (first | ((with_reducible refine gate_callee (f := 16) rfl ?_); refine goesL_ (some 19) rfl rfl Try.func16 (by kernel_rfl) rfl #[.slice A1 l1.length c1] rfl (by (try simp only [List.map_toArray, List.map_cons, List.map_nil]); first | done | rfl | (simp only [List.length_drop, List.length_take]; rfl)) ?_; (with_reducible refine (knelllaw11_Ofs.calls kj2 _ _ l1 t122 _ ?side1 ?side2 A11.out).mono ?_); (case side1 => repeat (first | exact (Kd.C_below HR1.out HB.out) | (with_reducible refine Kd.C_alloc ?_ _) | (with_reducible refine Kd.C_drewN ?_ _) | (with_reducible refine Kd.C_drew ?_))); (case side2 => exact HC1.out); rintro e w19 ⟨v123, rfl, ho0, hb⟩; refine ⟨_, rfl, ?_⟩; have n0_ := Aside0.mk (Kd.R_lower ho0 (below_size (by repeat (first | (with_reducible first | exact HB.out | apply below_alloc | apply pw_below_drewN | apply below_drew1) | exact HB.out)))); have n1_ := Aside0.mk (below_step (by repeat (first | (with_reducible first | exact HB.out | apply below_alloc | apply pw_below_drewN | apply below_drew1) | exact HB.out)) hb); clear HB; have HO124 := n0_; have HB := n1_; clear n0_ n1_; (try clear hb); (try clear hb2); (try clear hk); (try clear hi); (try clear ho0); obtain ⟨Ao20, co20, eo20⟩ := Kd.R_slice HO124.out; subst eo20) | ((with_reducible refine gate_callee (f := 37) rfl ?_); refine goesL_ (some 21) rfl rfl Try.func37 (by kernel_rfl) rfl #[.slice Ao20 t122.length co20, .int .i64 a0] rfl (by (try simp only [List.map_toArray, List.map_cons, List.map_nil]); first | done | rfl | (simp only [List.length_drop, List.length_take]; rfl)) ?_; (with_reducible refine (judge_Judge.calls _ _ t122 a0 t125 t126 _ ?side1 ?side2 A12.out).mono ?_); (case side1 => repeat (first | exact (Kd.R_reads' HO124.out).2.2 | (with_reducible refine Kd.C_alloc ?_ _) | (with_reducible refine Kd.C_drewN ?_ _) | (with_reducible refine Kd.C_drew ?_))); (case side2 => exact (Kd.R_reads' HO124.out).2.1); rintro e w21 ⟨rfl, hb⟩; refine ⟨_, rfl, ?_⟩; have n0_ := Aside0.mk (Kd.R_below (by (with_reducible repeat (first | apply Kd.R_alloc | apply Kd.R_drewN | apply Kd.R_drew)); exact HO124.out) hb); have n1_ := Aside0.mk (below_step (by repeat (first | (with_reducible first | exact HB.out | apply below_alloc | apply pw_below_drewN | apply below_drew1) | exact HB.out)) hb); clear HO124; clear HB; have HO124 := n0_; have HB := n1_; clear n0_ n1_; (try clear hb); (try clear hb2); (try clear hk); (try clear hi)) | ((with_reducible refine gate_callee (f := 38) rfl ?_); refine goesL_ (some 27) rfl rfl Try.func38 (by kernel_rfl) rfl #[.slice A1 l1.length c1, .int .i64 a0] rfl (by (try simp only [List.map_toArray, List.map_cons, List.map_nil]); first | done | rfl | (simp only [List.length_drop, List.length_take]; rfl)) ?_; (with_reducible refine (knellref13_Judge.calls _ _ l1 a0 t127 t128 _ ?side1 ?side2 A13.out).mono ?_); (case side1 => repeat (first | exact (Kd.C_below HR1.out HB.out) | (with_reducible refine Kd.C_alloc ?_ _) | (with_reducible refine Kd.C_drewN ?_ _) | (with_reducible refine Kd.C_drew ?_))); (case side2 => exact HC1.out); rintro e w22 ⟨rfl, hb⟩; refine ⟨_, rfl, ?_⟩; have n0_ := Aside0.mk (Kd.R_below (by (with_reducible repeat (first | apply Kd.R_alloc | apply Kd.R_drewN | apply Kd.R_drew)); exact HO124.out) hb); have n1_ := Aside0.mk (below_step (by repeat (first | (with_reducible first | exact HB.out | apply below_alloc | apply pw_below_drewN | apply below_drew1) | exact HB.out)) hb); clear HO124; clear HB; have HO124 := n0_; have HB := n1_; clear n0_ n1_; (try clear hb); (try clear hb2); (try clear hk); (try clear hi)))
     go_ret
     exact ⟨by first | rfl | (simp [errW_none, errW_some] <;> rfl) | (simp [*, errW_none, errW_some] <;> rfl), by repeat (first | (with_reducible first | exact HB.out | apply below_alloc | apply pw_below_drewN | apply below_drew1) | exact HB.out)⟩
end Go.Proofs.Ythniclbmpeklmaa.KJh
end
section
namespace Go.Proofs.Ythniclbmpeklmaa.KJh
open Go.RowKit Go.Proofs.YthniclbmpeklmaaW.PrintWords Go.Proofs.Ythniclbmpeklmaa.Ju
open Go.Proofs.YthniclbmpeklmaaW.PrintWords renaming Ev → PE
set_option linter.unusedVariables false
set_option linter.unusedSimpArgs false
theorem Ev.self {α : Type} {g : Nat → Option α} {r : α} (h : ∀ k, g (k + 1) = some r) : PE g r := PE.step h (PE.now r)
theorem w64 {i n : Nat} (h : i < n) (hn : n ≤ 1000000) : wrap64 ((i : Int) + 1) = ((i + 1 : Nat) : Int) := by unfold wrap64; omega
def toE (x : S50) : Au.Ev := ⟨x.f0, x.f1, x.f2, x.f3.f0, x.f3.f1, x.f4.f0, x.f4.f1, x.f5, x.f6, x.f7, x.f8, x.f9⟩
def ofS (x : S50) : S54 := ⟨x.f0, x.f1, x.f2, ⟨x.f3.f0, x.f3.f1⟩, ⟨x.f4.f0, x.f4.f1⟩, x.f5, x.f6, x.f7, x.f8, x.f9⟩
theorem ofs_is (l : List S50) (hn : l.length ≤ 1000000) : PE (fun k => knelllaw11_Ofs.f k l) (l.map ofS) := by
 have go : ∀ d i, i + d = l.length → PE (fun k => knelllaw11_Ofs.l0 k ((l.take i).map ofS) l (l.length : Int) (i : Int)) (l.map ofS) := by
  intro d
  induction d with
  | zero =>
   intro i hd
   obtain rfl : i = l.length := by omega
   refine Ev.self fun k => ?_
   rw [knelllaw11_Ofs.l0, if_neg (by omega), List.take_length]
  | succ d ih =>
   intro i hd
   refine PE.step (f := fun k => knelllaw11_Ofs.l0 k ((l.take (i + 1)).map ofS) l (l.length : Int) ((i + 1 : Nat) : Int)) (fun k => ?_) (ih (i + 1) (by omega))
   have hi : i < l.length := by omega
   have hrd : rd_T50 l (i : Int) = l[i] := by show l.getD i z50 = l[i]; simp [List.getD, hi]
   rw [knelllaw11_Ofs.l0, if_pos (by omega), if_pos (by omega), if_pos (by omega)]
   unfold knelllaw11_Of.f
   simp only [Option.bind_some]
   rw [if_pos (by simp; omega), w64 hi hn, hrd, List.take_succ_eq_append_getElem hi, List.map_append]
   rfl
 exact go l.length 0 (by omega)
theorem wf_ofS {l : List S50} (hw : ∀ x ∈ l, wfB' (toE x) = true) : ((l.map ofS).all fun x => wfB' (judge_Judge.ev x)) = true := by
 rw [List.all_eq_true]
 intro y hy
 obtain ⟨x, hx, rfl⟩ := List.mem_map.1 hy
 exact hw x hx
theorem jj {l : List S50} (hn : l.length ≤ 1000) (hw : ∀ x ∈ l, wfB' (toE x) = true) (a0 : Int) : judge_Judge.f (l.map ofS) a0 = some (judgeF (l.map toE) a0) := by
 unfold judge_Judge.f
 rw [if_pos ⟨by rw [List.length_map]; omega, wf_ofS hw⟩, List.map_map]
 rfl
theorem rj {l : List S50} (hn : l.length ≤ 1000) (hw : ∀ x ∈ l, wfB' (toE x) = true) (ht : ∀ x ∈ l, (Lit.int .i64 x.f5).wf = true) (a0 : Int) : knellref13_Judge.f l a0 = some (judgeF (l.map toE) a0) := by
 unfold knellref13_Judge.f
 rw [if_pos]
 ·rfl
 ·refine ⟨hn, List.all_eq_true.2 fun x hx => ?_⟩
  have h1 := hw x hx
  have h2 := ht x hx
  have e2 : IntKind.i64.max = 9223372036854775807 := rfl
  simp only [wfB', Bool.and_eq_true] at h1
  simp only [Lit.wf, e2, Bool.and_eq_true, decide_eq_true_eq] at h2
  rw [Bool.and_eq_true]
  exact ⟨h1.1.1.2, decide_eq_true (by omega)⟩
theorem JudgeFirst (a0 : Int) (l1 : List S50) (hw : ∀ x ∈ l1, wfB' (toE x) = true) (ht : ∀ x ∈ l1, (Lit.int .i64 x.f5).wf = true) : ∃ k, knelllaw13_JudgeFirst.f k a0 l1 = some true := by
 have yes : ∃ k, knelllaw13_JudgeFirst.j0 k a0 l1 true = some true := ⟨1, by rw [knelllaw13_JudgeFirst.j0, if_pos rfl]; rfl⟩
 unfold knelllaw13_JudgeFirst.f
 simp only [show knelllaw13_speaks.f = some true from rfl, Option.bind_some, if_true]
 by_cases hn : (l1.length : Int) > 60
 ·simp only [decide_eq_true hn]; exact yes
 ·simp only [decide_eq_false hn]
  have hl : l1.length ≤ 60 := by omega
  refine PE.rounds (g := fun k => knelllaw13_JudgeFirst.j0 k a0 l1 false) (PE.step (fun k => by rw [knelllaw13_JudgeFirst.j0, if_neg (by decide)]) (PE.bind (ofs_is l1 (by omega)) (PE.congr (fun k => ?_) (PE.now true))))
  rw [jj (by omega) hw, rj (by omega) hw ht]
  simp
end Go.Proofs.Ythniclbmpeklmaa.KJh
end
section
namespace Go.Proofs.Ythniclbmpeklmaa.Krow
open Go.ChangeShapes Go.WideShapes Go.Deep Go.Proofs.YthniclbmpeklmaaW.PrintWords
inductive Leaf where
 | int (k : IntKind)
 | bool
def Leaf.ok : Leaf → Value → Prop
 | .int k, v => ∃ n, v = .int k n ∧ (Lit.int k n).wf = true
 | .bool, v => ∃ b, v = .bool b
def Leaves : List Leaf → List Value → Prop
 | [], [] => True
 | l :: ls, v :: vs => l.ok v ∧ Leaves ls vs
 | _, _ => False
theorem Leaves.length : ∀ {ls : List Leaf} {vs : List Value}, Leaves ls vs → vs.length = ls.length
 | [], [], _ => rfl
 | _ :: _, _ :: _, h => by simp [Leaves.length h.2]
theorem Leaves.append : ∀ {a b : List Leaf} {vs ws : List Value}, Leaves a vs → Leaves b ws → Leaves (a ++ b) (vs ++ ws)
 | [], _, [], _, _, h => h
 | _ :: _, _, _ :: _, _, h, h' => ⟨h.1, Leaves.append h.2 h'⟩
theorem Leaves.int {k : IntKind} {ls : List Leaf} {vs : List Value} (h : Leaves (.int k :: ls) vs) : ∃ n r, vs = .int k n :: r ∧ (Lit.int k n).wf = true ∧ Leaves ls r := by
 match vs, h with
 | _ :: r, ⟨⟨n, rfl, hw⟩, h⟩ => exact ⟨n, r, rfl, hw, h⟩
theorem Leaves.boole {ls : List Leaf} {vs : List Value} (h : Leaves (.bool :: ls) vs) : ∃ b r, vs = .bool b :: r ∧ Leaves ls r := by
 match vs, h with
 | _ :: r, ⟨⟨b, rfl⟩, h⟩ => exact ⟨b, r, rfl, h⟩
theorem Leaves.nil {vs : List Value} (h : Leaves [] vs) : vs = [] := by
 match vs, h with
 | [], _ => rfl
theorem collect {α : Type} {p : Nat → α → Prop} {len : Nat} (key : ∀ i, i < len → ∃ x : α, p i x) : ∃ l : List α, l.length = len ∧ ∀ i x, l[i]? = some x → p i x := by
 induction len with
 | zero => exact ⟨[], rfl, fun i x h => by simp at h⟩
 | succ len ih =>
  obtain ⟨l, hl, hx⟩ := ih (fun i hi => key i (by omega))
  obtain ⟨x, hp⟩ := key len (by omega)
  refine ⟨l ++ [x], by simp [hl], fun i y hy => ?_⟩
  by_cases hi : i < len
  ·rw [List.getElem?_append_left (by omega)] at hy
   exact hx i y hy
  ·rw [List.getElem?_append_right (by omega)] at hy
   have : i - l.length = 0 := by
    have := (List.getElem?_eq_some_iff.1 hy).1
    simp at this
    omega
   rw [this] at hy
   obtain rfl : x = y := by simpa using hy
   obtain rfl : i = len := by omega
   exact hp
def fieldsOf (f : TypeId → Option (List Leaf)) (P : Program) : List Field → Nat → Option (List Leaf)
 | [], _ => some []
 | x :: r, off => (f x.type).bind fun ls => if x.offset = off ∧ P.cellsOf x.type = ls.length then (fieldsOf f P r (off + ls.length)).map (ls ++ ·) else none
def plainOf (P : Program) : Nat → TypeId → Option (List Leaf)
 | 0, _ => none
 | n + 1, t => match P.underlying t with
  | some (.int k) => some [.int k]
  | some .bool => some [.bool]
  | some (.struct fs) => (fieldsOf (plainOf P n) P fs.toList 0).bind fun ls => if P.cellsOf t = ls.length then some ls else none
  | some (.array m e) => (plainOf P n e).bind fun ls => if P.cellsOf e = ls.length ∧ P.cellsOf t = m * ls.length then some ((List.replicate m ls).flatten) else none
  | _ => none
section
variable {H : Type} {enc : TypeId × Value → H} {P : Program} {w : World} {base : Nat} {spare : Nat → Bool} {held : Bool}
theorem fields_leaves {n : Nat} (ih : ∀ (t : TypeId) (ls : List Leaf) (fuel : Nat) (cs : List Value) (x : DataW H × List MemPlace), plainOf P n t = some ls → DataW.trod enc P w base spare held fuel t cs = some x → Leaves ls cs) (cs : List Value) (m : Nat) :
  ∀ (fs : List Field) (off : Nat) (ls : List Leaf), (∀ (i : Nat) (f : Field), fs[i]? = some f → ∃ x, DataW.trod enc P w base spare held m f.type ((cs.drop f.offset).take (P.cellsOf f.type)) = some x) →
   fieldsOf (plainOf P n) P fs off = some ls → Leaves ls ((cs.drop off).take ls.length) := by
 intro fs
 induction fs with
 | nil =>
  intro off ls _ h
  simp only [fieldsOf, Option.some.injEq] at h
  subst h
  simp [Leaves]
 | cons f r ihr =>
  intro off ls hx h
  simp only [fieldsOf] at h
  obtain ⟨l1, h1, h⟩ := Option.bind_eq_some_iff.1 h
  by_cases hc : f.offset = off ∧ P.cellsOf f.type = l1.length
  ·rw [if_pos hc] at h
   obtain ⟨l2, h2, rfl⟩ := Option.map_eq_some_iff.1 h
   obtain ⟨x, hx0⟩ := hx 0 f rfl
   rw [hc.1, hc.2] at hx0
   have a1 := ih f.type l1 m _ x h1 hx0
   have a2 := ihr (off + l1.length) l2 (fun i g hg => hx (i + 1) g hg) h2
   have e : (cs.drop off).take (l1 ++ l2).length = (cs.drop off).take l1.length ++ (cs.drop (off + l1.length)).take l2.length := by
    rw [List.length_append, List.take_add, List.drop_drop]
   rw [e]
   exact a1.append a2
  ·rw [if_neg hc] at h
   cases h
theorem blocks_leaves (ls : List Leaf) (cs : List Value) : ∀ (m off : Nat), (∀ i, i < m → Leaves ls ((cs.drop ((off + i) * ls.length)).take ls.length)) → Leaves ((List.replicate m ls).flatten) ((cs.drop (off * ls.length)).take (m * ls.length)) := by
 intro m
 induction m with
 | zero => intro off _; simp [Leaves]
 | succ m ih =>
  intro off h
  have a1 := h 0 (by omega)
  have a2 := ih (off + 1) (fun i hi => by have := h (i + 1) (by omega); rw [show off + 1 + i = off + (i + 1) by omega]; exact this)
  rw [Nat.add_zero] at a1
  rw [List.replicate_succ, List.flatten_cons, show (m + 1) * ls.length = ls.length + m * ls.length by rw [Nat.add_mul]; omega, List.take_add, List.drop_drop, show off * ls.length + ls.length = (off + 1) * ls.length by rw [Nat.add_mul]; omega]
  exact a1.append a2
theorem plain_trod : ∀ (n : Nat) (t : TypeId) (ls : List Leaf) (fuel : Nat) (cs : List Value) (x : DataW H × List MemPlace), plainOf P n t = some ls → DataW.trod enc P w base spare held fuel t cs = some x → Leaves ls cs := by
 intro n
 induction n with
 | zero => intro t ls fuel cs x h; cases h
 | succ n ih =>
  intro t ls fuel cs x h hx
  unfold plainOf at h
  split at h
  ·rename_i k hu
   obtain rfl := Option.some.inj h
   obtain ⟨a, rfl, _, hw⟩ := DataW.trod_int hu hx
   exact ⟨⟨a, rfl, hw⟩, trivial⟩
  ·rename_i hu
   obtain rfl := Option.some.inj h
   obtain ⟨b, rfl, _⟩ := DataW.trod_bool hu hx
   exact ⟨⟨b, rfl⟩, trivial⟩
  ·rename_i fs hu
   obtain ⟨l, h1, h⟩ := Option.bind_eq_some_iff.1 h
   by_cases hc : P.cellsOf t = l.length
   ·rw [if_pos hc] at h
    obtain rfl := Option.some.inj h
    obtain ⟨xs, m, _, _, hl, hlen, hf⟩ := DataW.trod_struct hu hx
    have := fields_leaves ih cs m fs.toList 0 l (fun i f hi => by
     have hi' : fs[i]? = some f := by simpa using hi
     rw [hf i f hi']
     have : i < xs.length := by rw [hlen]; exact (Array.getElem?_eq_some_iff.1 hi').1
     exact ⟨_, List.getElem?_eq_getElem this⟩) h1
    rw [List.drop_zero, List.take_of_length_le (by omega)] at this
    exact this
   ·rw [if_neg hc] at h
    cases h
  ·rename_i m e hu
   obtain ⟨l, h1, h⟩ := Option.bind_eq_some_iff.1 h
   by_cases hc : P.cellsOf e = l.length ∧ P.cellsOf t = m * l.length
   ·rw [if_pos hc] at h
    obtain rfl := Option.some.inj h
    obtain ⟨xs, q, _, _, hl, hlen, hf⟩ := DataW.trod_array hu hx
    have := blocks_leaves l cs m 0 (fun i hi => by
     have h2 := hf i hi
     rw [List.getElem?_eq_getElem (by omega), hc.1] at h2
     rw [Nat.zero_add]
     exact ih e l q _ _ h1 h2)
    rw [Nat.zero_mul, List.drop_zero, List.take_of_length_le (by omega)] at this
    exact this
   ·rw [if_neg hc] at h
    cases h
  ·cases h
theorem open_plain {r : Reach} {b0 : Nat} {t : TypeId} {v : Value} {d : DataW H} {ps : List MemPlace} {n : Nat} {ls : List Leaf} (hp : plainOf P n t = some ls) (ha : (match P.underlying t with | some (.struct _) | some (.array _ _) => true | _ => false) = true)
  (hv : Value.okWide P w r b0 t v) (h : DataW.Trod enc P w base spare held t v d ps) : ∃ cs : List Value, v = .agg cs.toArray ∧ Leaves ls cs := by
 obtain ⟨fuel, hf⟩ := h
 unfold Value.okWide at hv
 have key : ∃ cs, v = .agg cs := by
  split at hv
  ·obtain ⟨cs, h1, _⟩ := hv; exact ⟨cs, h1⟩
  ·obtain ⟨cs, h1, _⟩ := hv; exact ⟨cs, h1⟩
  ·rename_i h1 h2
   split at ha
   ·rename_i fs he; exact absurd he (h1 fs)
   ·rename_i a e he; exact absurd he (h2 a e)
   ·cases ha
 obtain ⟨cs, rfl⟩ := key
 have h2 := plain_trod n t ls fuel _ _ hp hf
 exact ⟨cs.toList, by simp, by simpa [Value.cells] using h2⟩
theorem open_rows {α : Type} (D : Kd α) (good : α → Prop) {r : Reach} {b0 : Nat} {t e : TypeId} {v : Value} {d : DataW H} {ps : List MemPlace} {n : Nat} {ls : List Leaf} (hu : P.underlying t = some (.slice e)) (hp : plainOf P n e = some ls) (hc : P.cellsOf e = ls.length) (hsz : D.sz = ls.length)
  (mk : ∀ cs : List Value, Leaves ls cs → ∃ x : α, D.K w x cs ∧ good x)
  (hv : Value.okWide P w r b0 t v) (h : DataW.Trod enc P w base spare held t v d ps) :
  ∃ (A : Option Addr) (c : Nat) (l : List α), v = .slice A l.length c ∧ l.length ≤ c ∧ l.length ≤ 9223372036854775807 ∧ Kd.C D w A l.length l ∧ ∀ x ∈ l, good x := by
 obtain ⟨A, len, cap, rfl⟩ := okWide_slice hu hv
 obtain ⟨fuel, hf⟩ := h
 rcases open_slice hu hf with ⟨hcs, _⟩ | ⟨a, len', cap', m, q, Ds, Pl, hcs, _, hl, hm, hmm, _, hi⟩
 ·simp [Value.cells] at hcs
  obtain ⟨rfl, rfl, rfl⟩ := hcs
  exact ⟨none, 0, [], rfl, Nat.le_refl _, by simp, ⟨rfl, by simp, fun h => absurd h (by simp)⟩, by simp⟩
 ·simp [Value.cells] at hcs
  obtain ⟨rfl, rfl, rfl⟩ := hcs
  have hlm : len ≤ m := by
   rw [hmm]
   split
   ·exact hl
   ·exact Nat.le_refl _
  have key : ∀ i, i < len → ∃ (x : α) (cs : List Value), D.K w x cs ∧ good x ∧ cs.length = ls.length ∧ ∀ j u, cs[j]? = some u → w.cell? (a.add (i * ls.length + j)) = some u := by
   intro i hil
   obtain ⟨cs', h1, h2⟩ := hi i (by omega)
   rw [hc] at h1
   obtain ⟨_, hlen, hcell⟩ := World.cells?_some h1
   obtain ⟨x, hx, hg⟩ := mk cs' (plain_trod n e ls q cs' _ hp h2)
   refine ⟨x, cs', hx, hg, hlen, fun j u hu => ?_⟩
   have hj : j < ls.length := by rw [← hlen]; exact (List.getElem?_eq_some_iff.1 hu).1
   rw [← Go.Deep.add_add, hcell j hj, hu]
  have ch := collect key
  obtain ⟨l, rfl, hx⟩ := ch
  have hm' : cap ≤ 9223372036854775807 := hm
  refine ⟨some a, cap, l, rfl, hl, by omega, ⟨rfl, by omega, fun _ => ⟨a, rfl, fun j p hj => ?_⟩⟩, fun x hxl => ?_⟩
  ·obtain ⟨cs, h1, _, h3, h4⟩ := hx j p hj
   refine ⟨cs, by rw [h3, hsz], h1, ?_⟩
   rw [hsz]
   exact h4
  ·obtain ⟨i, hi⟩ := List.mem_iff_getElem?.1 hxl
   obtain ⟨_, _, h2, _⟩ := hx i x hi
   exact h2
end
end Go.Proofs.Ythniclbmpeklmaa.Krow
end
