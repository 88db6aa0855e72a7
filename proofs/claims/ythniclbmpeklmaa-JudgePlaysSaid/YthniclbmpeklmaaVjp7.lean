/- What is proved: a part of the way to the statement JudgePlaysSaid: JrU, JrX, JrY, JpA, KJfx8, JpB, JpC, JpD, Krow; no conditions. Put together by a program of this session (claimv.py). -/
import Derived.ChangeArms
import Derived.WideShapes
import Derived.OpenShut
import Derived.Deep.Slices
import Derived.Test.YthniclbmpeklmaaVjp6
section
set_option maxHeartbeats 4000000
set_option maxRecDepth 100000
namespace Go.Proofs.Ythniclbmpeklmaa.KJf
open Go.RowKit Go.Proofs.YthniclbmpeklmaaW.PrintWords Go.Proofs.YthniclbmpeklmaaW.PrintLast Go.Proofs.YthniclbmpeklmaaW.PrintMore Go.Proofs.Ythniclbmpeklmaa.Ju
open Go.Proofs.Ythniclbmpeklmaa.Au (evA types_ne RowIs)
open Go.Proofs.YthniclbmpeklmaaW.PrintWords renaming Ev → PE
set_option linter.unusedVariables false
set_option linter.unusedSimpArgs false
attribute [local go_sem high] eqA36
structure Rh (B : Nat) (w W : World) (b : Rb) (A0 : Option Addr) (c0 : Nat) (A : Option Addr) (c nw : Nat) (e : Au.Ev) : Prop where
 below : Below w.heap.size w W
 b_ : W.heap[w.heap.size]? = some (.cells #[.int .i64 b.m.clk, .slice A0 b.m.L.length c0, .slice A nw c] 46 (0, 0))
 e_ : W.heap[w.heap.size + 1]? = some (.cells (evA e) 50 (0, 0))
 r : W.heap[w.heap.size + 1 + 1]? = some (.cells #[.int .i64 0, .slice none 0 0, .slice none 0 0] 46 (0, 0))
 kr : KR W B (.slice A0 b.m.L.length c0) b.m.L
 kw : KW W B (.slice A nw c) b.W
 len : b.W.length = nw
section
variable {B : Nat} {w W W1 : World} {b : Rb} {A0 : Option Addr} {c0 : Nat} {A : Option Addr} {c nw : Nat} {e : Au.Ev}
theorem Rh.start (hr : KR w B (.slice A0 b.m.L.length c0) b.m.L) (hw : KW w B (.slice A nw c) b.W) (hl : b.W.length = nw) (e : Au.Ev) : Rh B w (((w.alloc (.cells #[.int .i64 b.m.clk, .slice A0 b.m.L.length c0, .slice A nw c] 46)).alloc (.cells (evA e) 50)).alloc (.cells #[.int .i64 0, .slice none 0 0, .slice none 0 0] 46)) b A0 c0 A c nw e :=
 ⟨below_alloc (below_alloc (below_alloc (Below.refl _ _) _) _) _, blk_alloc (blk_alloc (blk_new _ _) _) _, blk_alloc (by have q := blk_new (w.alloc (.cells #[.int .i64 b.m.clk, .slice A0 b.m.L.length c0, .slice A nw c] 46)) (.cells (evA e) 50); rw [show (w.alloc (.cells #[.int .i64 b.m.clk, .slice A0 b.m.L.length c0, .slice A nw c] 46)).heap.size = w.heap.size + 1 by simp] at q; exact q) _,
  (by have q := blk_new ((w.alloc (.cells #[.int .i64 b.m.clk, .slice A0 b.m.L.length c0, .slice A nw c] 46)).alloc (.cells (evA e) 50)) (.cells #[.int .i64 0, .slice none 0 0, .slice none 0 0] 46); rw [show ((w.alloc (.cells #[.int .i64 b.m.clk, .slice A0 b.m.L.length c0, .slice A nw c] 46)).alloc (.cells (evA e) 50)).heap.size = w.heap.size + 1 + 1 by simp] at q; exact q), Kd.R_below hr (below_alloc (below_alloc (below_alloc (Below.refl _ _) _) _) _), Kd.R_below hw (below_alloc (below_alloc (below_alloc (Below.refl _ _) _) _) _), hl⟩
theorem Rh.step (h : Rh B w W b A0 c0 A c nw e) (hb : Below W.heap.size W W1) : Rh B w W1 b A0 c0 A c nw e :=
 ⟨below_step h.below hb, blk_below h.b_ hb, blk_below h.e_ hb, blk_below h.r hb, Kd.R_below h.kr hb, Kd.R_below h.kw hb, h.len⟩
theorem Rh.newrow (h : Rh B w W b A0 c0 A c nw e) (cs0 cs : Array Value) (t : TypeId) : Rh B w ((W.alloc (.cells cs0 t)).setRow W.heap.size cs) b A0 c0 A c nw e ∧ ((W.alloc (.cells cs0 t)).setRow W.heap.size cs).heap[W.heap.size]? = some (.cells cs t (0, 0)) := by
 have h1 := h.step (below_alloc (Below.refl _ _) (.cells cs0 t))
 have hb : Below W.heap.size W ((W.alloc (.cells cs0 t)).setRow W.heap.size cs) := below_setRow (below_alloc (Below.refl _ _) _) (Nat.le_refl _) cs
 exact ⟨h.step hb, setRow_heap _ _ cs0 cs t _ (blk_new W _)⟩
theorem Rh.put (h : Rh B w W b A0 c0 A c nw e) {b1 : Rb} {A1 A2 : Option Addr} {c1 c2 nw2 : Nat} (hr : KR W B (.slice A1 b1.m.L.length c1) b1.m.L) (hw : KW W B (.slice A2 nw2 c2) b1.W) (hl : b1.W.length = nw2) :
  Rh B w (W.setRow w.heap.size #[.int .i64 b1.m.clk, .slice A1 b1.m.L.length c1, .slice A2 nw2 c2]) b1 A1 c1 A2 c2 nw2 e :=
 ⟨below_setRow h.below (Nat.le_refl _) _, setRow_heap _ _ _ _ _ _ h.b_, (setRow_other W _ _ _ (by simp)).trans h.e_, (setRow_other W _ _ _ (by simp; omega)).trans h.r,
  hr.keep fun g cs hg => setRow_other W _ g _ (types_ne hg h.b_ (by decide)), KW.keep hw fun g cs hg => setRow_other W _ g _ (types_ne hg h.b_ (by decide)), hl⟩
theorem Rh.fin (h : Rh B w W b A0 c0 A c nw e) (cs : Array Value) {v1 v2 : Value} {L1 : List S127} {Ws1 : List S66} (hr : KR W B v1 L1) (hw : KW W B v2 Ws1) :
  (W.setRow (w.heap.size + 1 + 1) cs).heap[w.heap.size + 1 + 1]? = some (.cells cs 46 (0, 0)) ∧ KR (W.setRow (w.heap.size + 1 + 1) cs) B v1 L1 ∧ KW (W.setRow (w.heap.size + 1 + 1) cs) B v2 Ws1 ∧ Below w.heap.size w (W.setRow (w.heap.size + 1 + 1) cs) :=
 ⟨setRow_heap _ _ _ _ _ _ h.r, hr.keep fun g cs hg => setRow_other W _ g _ (types_ne hg h.r (by decide)), KW.keep hw fun g cs hg => setRow_other W _ g _ (types_ne hg h.r (by decide)), below_setRow h.below (by omega) cs⟩
structure Rx (B : Nat) (w W : World) (b : Rb) (A0 : Option Addr) (c0 : Nat) (A : Option Addr) (c nw : Nat) (e : Au.Ev) (xb : Nat) (cs : Array Value) : Prop where
 rh : Rh B w W b A0 c0 A c nw e
 x_ : W.heap[xb]? = some (.cells cs 66 (0, 0))
 lt : w.heap.size + 1 + 1 < xb
 own : ∀ k, (Value.slice A nw c).ownBlock = some k → k ≠ xb
theorem KW.own {W W1 : World} {B : Nat} {v : Value} {L : List S66} (h : KW W B v L) (hk : ∀ k, v.ownBlock = some k → W1.heap[k]? = W.heap[k]?) : KW W1 B v L := by
 refine KW.of_row ?_
 have hr := h.row
 refine ⟨hr.1, ?_⟩
 rcases hr.2 with q | ⟨g, cap, cur, hv, hb, hg, q⟩
 ·exact .inl q
 ·exact .inr ⟨g, cap, cur, hv, hb, (hk g (by rw [hv]; rfl)).trans hg, q⟩
theorem Rx.step {xb : Nat} {cs : Array Value} (h : Rx B w W b A0 c0 A c nw e xb cs) (hb : Below W.heap.size W W1) : Rx B w W1 b A0 c0 A c nw e xb cs := ⟨h.rh.step hb, blk_below h.x_ hb, h.lt, h.own⟩
theorem Rx.newrow {xb : Nat} {cs : Array Value} (h : Rx B w W b A0 c0 A c nw e xb cs) (cs0 cs1 : Array Value) (t : TypeId) : Rx B w ((W.alloc (.cells cs0 t)).setRow W.heap.size cs1) b A0 c0 A c nw e xb cs ∧ ((W.alloc (.cells cs0 t)).setRow W.heap.size cs1).heap[W.heap.size]? = some (.cells cs1 t (0, 0)) :=
 ⟨h.step (below_setRow (below_alloc (Below.refl _ _) _) (Nat.le_refl _) cs1), setRow_heap _ _ cs0 cs1 t _ (blk_new W _)⟩
theorem Rx.put {xb : Nat} {cs : Array Value} (h : Rx B w W b A0 c0 A c nw e xb cs) {m1 : Rm} {A1 : Option Addr} {c1 : Nat} (hr : KR W B (.slice A1 m1.L.length c1) m1.L) : Rx B w (W.setRow w.heap.size #[.int .i64 m1.clk, .slice A1 m1.L.length c1, .slice A nw c]) ⟨m1, b.W⟩ A1 c1 A c nw e xb cs :=
 ⟨h.rh.put (b1 := ⟨m1, b.W⟩) hr h.rh.kw h.rh.len, (setRow_other W _ _ _ (by have := h.lt; omega)).trans h.x_, h.lt, h.own⟩
theorem Rx.mark {xb : Nat} {cs cs1 : Array Value} (h : Rx B w W b A0 c0 A c nw e xb cs) (j : Nat) (u : Value) (hc : cs.setIfInBounds j u = cs1) : Rx B w (W.setCell ⟨xb, j, none⟩ u) b A0 c0 A c nw e xb cs1 := by
 have hlt := h.lt
 have far : ∀ k, k ≠ xb → (W.setCell ⟨xb, j, none⟩ u).heap[k]? = W.heap[k]? := fun k hk => Below.heap_setCell _ _ _ _ hk
 exact ⟨⟨below_set h.rh.below (by omega), (far _ (by omega)).trans h.rh.b_, (far _ (by omega)).trans h.rh.e_, (far _ (by omega)).trans h.rh.r, h.rh.kr.keep fun g cs hg => far g (types_ne hg h.x_ (by decide)), KW.own h.rh.kw fun k hk => far k (h.own k hk), h.rh.len⟩, blk_put h.x_ j u hc, hlt, h.own⟩
theorem Rx.row {xb : Nat} {cs : Array Value} (h : Rx B w W b A0 c0 A c nw e xb cs) (cs1 : Array Value) : Rx B w (W.setRow xb cs1) b A0 c0 A c nw e xb cs1 := by
 have hlt := h.lt
 have far : ∀ k, k ≠ xb → (W.setRow xb cs1).heap[k]? = W.heap[k]? := fun k hk => setRow_other W _ k _ hk
 exact ⟨⟨below_setRow h.rh.below (by omega) _, (far _ (by omega)).trans h.rh.b_, (far _ (by omega)).trans h.rh.e_, (far _ (by omega)).trans h.rh.r, h.rh.kr.keep fun g cs hg => far g (types_ne hg h.x_ (by decide)), KW.own h.rh.kw fun k hk => far k (h.own k hk), h.rh.len⟩, setRow_heap _ _ _ _ _ _ h.x_, hlt, h.own⟩
end
def RhPost (B : Nat) (w : World) (nw : Nat) (p : Rb × Int) (r : Ending) (w' : World) : Prop := ∃ A1 c1 A2 c2, r = .returned (.tuple #[.agg #[.int .i64 p.1.m.clk, .slice A1 p.1.m.L.length c1, .slice A2 nw c2], .int .i64 p.2]) ∧ KR w' B (.slice A1 p.1.m.L.length c1) p.1.m.L ∧ KW w' B (.slice A2 nw c2) p.1.W ∧ Below w.heap.size w w' ∧ p.1.W.length = nw
theorem wpList_store_new {P : Program} {ops : Array Oper} {rest : List Oper} {o : Oper} {a : Act} {w : World} {Q : Exit → Act → World → Prop} (hgd : o.guard = none) (ty : TypeId) (x y : Operand) (ho : o.op = .store ty x y)
  (g q : Nat) (cells new : Array Value) (hx : a.eval x = .pointer (some ⟨g, q, none⟩)) (hy : a.eval y = .agg cells) (t : TypeId) (cur : Array Value) (hg : w.heap[g]? = some (.cells cur t (0, 0))) (hi : (P.info? ty).map (·.size) = some cells.size)
  (hold : q + cells.size ≤ cur.size) (h1 : cells.all (·.oneCell') = true) (hnew : (cur.toList.take q ++ cells.toList ++ cur.toList.drop (q + cells.size)).toArray = new) (h : wpList P ops Q rest (a.put o.dst undef) (w.setRow g new)) : wpList P ops Q (o :: rest) a w :=
 wpList_store_at hgd ty x y ho g q cells hx hy t cur hg hi hold h1 (hnew ▸ h)
theorem with_lit {w : World} {B : Nat} (clk : Int) (A0 : Option Addr) (n0 c0 : Nat) (A : Option Addr) (c nw : Nat) (L : List S66) (hl : L.length = nw) (i : Int) (h0 : 0 ≤ i) (hi : i < (nw : Int)) (hn : nw ≤ 64) (x : S66) (h : KW w B (.slice A nw c) L) (hB : B ≤ w.heap.size) :
  Calls Try.prog 63 #[.agg #[.int .i64 clk, .slice A0 n0 c0, .slice A nw c], .int .i64 i, .agg (wA x)] w fun r w' => ∃ A1 c1, r = .returned (.agg #[.int .i64 clk, .slice A0 n0 c0, .slice A1 nw c1]) ∧ KW w' B (.slice A1 nw c1) (L.set i.toNat x) ∧ Below w.heap.size w w' := by
 subst hl
 have := with_any clk A0 n0 c0 A c L i.toNat (by omega) hn x h
 rw [show ((i.toNat : Nat) : Int) = i by omega] at this
 refine this.mono ?_
 rintro r w' ⟨A1, c1, h1, h2, h3⟩
 exact ⟨A1, c1, h1, Kd.R_lower h2 hB, h3⟩
theorem work_at {W : World} {B : Nat} {A : Option Addr} {c nw : Nat} {L : List S66} (hl : L.length = nw) (h : KW W B (.slice A nw c) L) {i : Int} (h0 : 0 ≤ i) (hi : i < (nw : Int)) : ∃ g, A = some ⟨g, 0, none⟩ ∧ g < W.heap.size ∧ ∀ j, j < (wA (rd_T66 L i)).size → W.cell? ⟨g, i.toNat * 26 + j, none⟩ = (wA (rd_T66 L i))[j]? := by
 subst hl
 obtain ⟨x, hx, hrd, _⟩ := rd_at6 h0 hi
 rw [hrd]
 obtain ⟨g, cap, hv, _, hg, hcell⟩ := h.row.at_ wA_size hx
 injection hv with hA _ _
 exact ⟨g, hA, hg, hcell⟩
theorem own_ne {W : World} {B g c nw : Nat} {L : List S66} (hl : L.length = nw) (h : KW W B (.slice (some ⟨g, 0, none⟩) nw c) L) {i : Int} (h0 : 0 ≤ i) (hi : i < (nw : Int)) : ∀ k, (Value.slice (some ⟨g, 0, none⟩) nw c).ownBlock = some k → k ≠ W.heap.size := by
 intro k hk
 obtain ⟨g2, q1, q3, _⟩ := work_at hl h h0 hi
 have e1 : g = g2 := by injection q1 with q1; injection q1
 have e2 : g = k := by simpa [Value.ownBlock] using hk
 omega
theorem rhear_wrong {w : World} {B : Nat} (b : Rb) (A0 : Option Addr) (c0 : Nat) (A : Option Addr) (c nw : Nat) (e : Au.Ev) (hn : b.m.L.length ≤ 90000) (nd : (b.m.L.map S127.h).Nodup) (hB : B ≤ w.heap.size) (hkr : KR w B (.slice A0 b.m.L.length c0) b.m.L) (hkw : KW w B (.slice A nw c) b.W) (hlen : b.W.length = nw) (hnw : nw ≤ 64) (hr : rightJ e = false)  :
  Calls Try.prog 28 #[.agg #[.int .i64 b.m.clk, .slice A0 b.m.L.length c0, .slice A nw c], .agg (evA e)] w (RhPost B w nw (rhearF b e)) := by
 have hu0 := Try.underlying46
 have hu1 := Try.underlying36
 have hu2 := Try.underlying50
 have hu3 := Try.underlying66
 have hu4 := Try.underlying43
 have hu5 := Try.underlying44
 have HF := Aside0.mk (show rhearF b e = (b, 8) by unfold rhearF; rw [if_pos (.inl hr)])
 have CR := Aside0.mk (fun W => rright_run e W)
 rw [hr] at CR
 have HN := Aside0.mk hn
 have HND := Aside0.mk nd
 have HB := Aside0.mk hB
 have HNW := Aside0.mk hnw
 have HLEN := Aside0.mk hlen
 have HRT := Aside0.mk hr
 have HJ := Aside0.mk (Rh.start hkr hkw hlen e)
 clear hn nd hB hkr hkw hlen hnw hr 
 have hcb := fun i => blk_cell HJ.out.b_ i
 have hce := fun i => blk_cell HJ.out.e_ i
 have hlb := blk_lt HJ.out.b_
 have hle := blk_lt HJ.out.e_
 have hlr := blk_lt HJ.out.r
 go_enter Try.func28, Try.ntmps28
 go_wp2_with (first | (go_at_call 62; (with_reducible refine (CR.out _).mono ?_); rintro r w2 ⟨rfl, hb⟩; have HJ2 := Aside0.mk (HJ.out.step hb); clear hcb hce hlb hle hlr HJ; have HJ := HJ2; clear HJ2; have hcb := fun i => blk_cell HJ.out.b_ i; have hce := fun i => blk_cell HJ.out.e_ i; have hlb := blk_lt HJ.out.b_; have hle := blk_lt HJ.out.e_; have hlr := blk_lt HJ.out.r; clear hb) | ((with_reducible refine gate_store (t := 46) (p := 4) rfl ?_); go_loud (refine wpList_store_row rfl 46 _ _ rfl (w.heap.size + 1 + 1) #[.int .i64 b.m.clk, .slice A0 b.m.L.length c0, .slice A nw c] rfl rfl 46 _ HJ.out.r (by kernel_rfl) rfl (by simp [Value.oneCell']) ?_; have HFIN := Aside0.mk (HJ.out.fin #[.int .i64 b.m.clk, .slice A0 b.m.L.length c0, .slice A nw c] HJ.out.kr HJ.out.kw))))
 obtain ⟨hr9, hk9, hw9, hb9⟩ := HFIN.out
 unfold RhPost
 rw [HF.out]
 refine bodyPost_ret (v := .tuple #[.agg #[.int .i64 b.m.clk, .slice A0 b.m.L.length c0, .slice A nw c], .int .i64 8]) ?_ rfl ⟨A0, c0, A, c, rfl, hk9, hw9, hb9, HLEN.out⟩
 have hrow := run_loadVar_row (P := Try.prog) _ (w.heap.size + 1 + 1) 46 46 _ (0, 0) _ hr9 hu0 rfl (by kernel_rfl)
 simp [results, Try.results28, asAddr, hrow]
theorem rhear_worker {w : World} {B : Nat} (b : Rb) (A0 : Option Addr) (c0 : Nat) (A : Option Addr) (c nw : Nat) (e : Au.Ev) (hn : b.m.L.length ≤ 90000) (nd : (b.m.L.map S127.h).Nodup) (hB : B ≤ w.heap.size) (hkr : KR w B (.slice A0 b.m.L.length c0) b.m.L) (hkw : KW w B (.slice A nw c) b.W) (hlen : b.W.length = nw) (hnw : nw ≤ 64) (hr : rightJ e = true) (hwk : (b.W.length : Int) ≤ e.wk) :
  Calls Try.prog 28 #[.agg #[.int .i64 b.m.clk, .slice A0 b.m.L.length c0, .slice A nw c], .agg (evA e)] w (RhPost B w nw (rhearF b e)) := by
 have hu0 := Try.underlying46
 have hu1 := Try.underlying36
 have hu2 := Try.underlying50
 have hu3 := Try.underlying66
 have hu4 := Try.underlying43
 have hu5 := Try.underlying44
 have HF := Aside0.mk (show rhearF b e = (b, 8) by unfold rhearF; rw [if_pos (.inr hwk)])
 have d0 : decide (e.wk ≥ (nw : Int)) = true := decide_eq_true (by rw [← hlen]; exact hwk)
 have CR := Aside0.mk (fun W => rright_run e W)
 rw [hr] at CR
 have HN := Aside0.mk hn
 have HND := Aside0.mk nd
 have HB := Aside0.mk hB
 have HNW := Aside0.mk hnw
 have HLEN := Aside0.mk hlen
 have HRT := Aside0.mk hr
 have HJ := Aside0.mk (Rh.start hkr hkw hlen e)
 clear hn nd hB hkr hkw hlen hnw hr hwk
 have hcb := fun i => blk_cell HJ.out.b_ i
 have hce := fun i => blk_cell HJ.out.e_ i
 have hlb := blk_lt HJ.out.b_
 have hle := blk_lt HJ.out.e_
 have hlr := blk_lt HJ.out.r
 go_enter Try.func28, Try.ntmps28
 go_wp2_with (first | (go_at_call 62; (with_reducible refine (CR.out _).mono ?_); rintro r w2 ⟨rfl, hb⟩; have HJ2 := Aside0.mk (HJ.out.step hb); clear hcb hce hlb hle hlr HJ; have HJ := HJ2; clear HJ2; have hcb := fun i => blk_cell HJ.out.b_ i; have hce := fun i => blk_cell HJ.out.e_ i; have hlb := blk_lt HJ.out.b_; have hle := blk_lt HJ.out.e_; have hlr := blk_lt HJ.out.r; clear hb) | ((with_reducible refine gate_store (t := 46) (p := 4) rfl ?_); go_loud (refine wpList_store_row rfl 46 _ _ rfl (w.heap.size + 1 + 1) #[.int .i64 b.m.clk, .slice A0 b.m.L.length c0, .slice A nw c] rfl rfl 46 _ HJ.out.r (by kernel_rfl) rfl (by simp [Value.oneCell']) ?_; have HFIN := Aside0.mk (HJ.out.fin #[.int .i64 b.m.clk, .slice A0 b.m.L.length c0, .slice A nw c] HJ.out.kr HJ.out.kw))))
 obtain ⟨hr9, hk9, hw9, hb9⟩ := HFIN.out
 unfold RhPost
 rw [HF.out]
 refine bodyPost_ret (v := .tuple #[.agg #[.int .i64 b.m.clk, .slice A0 b.m.L.length c0, .slice A nw c], .int .i64 8]) ?_ rfl ⟨A0, c0, A, c, rfl, hk9, hw9, hb9, HLEN.out⟩
 have hrow := run_loadVar_row (P := Try.prog) _ (w.heap.size + 1 + 1) 46 46 _ (0, 0) _ hr9 hu0 rfl (by kernel_rfl)
 simp [results, Try.results28, asAddr, hrow]
theorem do_lit {w W : World} {B : Nat} (m : Rm) (A0 : Option Addr) (c0 : Nat) (e : Au.Ev) (hn : m.L.length ≤ 90000) (nd : (m.L.map S127.h).Nodup) (hB : B ≤ W.heap.size) (h : KR W B (.slice A0 m.L.length c0) m.L) {clk1 : Int} {L1 : List S127} {k1 : Int} (hp : rdoF m e = (⟨clk1, L1⟩, k1)) :
  Calls Try.prog 45 #[.agg #[.int .i64 m.clk, .slice A0 m.L.length c0], .agg (evA e)] W fun r w' => ∃ A1 c1, r = .returned (.tuple #[.agg #[.int .i64 clk1, .slice A1 L1.length c1], .int .i64 k1]) ∧ KR w' B (.slice A1 L1.length c1) L1 ∧ Below W.heap.size W w' := by
 refine (rdo_any m _ e hn nd hB h).mono ?_
 rw [hp]
 rintro r w' ⟨v1, h1, h2, h3⟩
 obtain ⟨A1, c1, rfl⟩ := Kd.R_slice h2
 exact ⟨A1, c1, h1, h2, h3⟩
theorem rhear_tick {w : World} {B : Nat} (b : Rb) (A0 : Option Addr) (c0 : Nat) (A : Option Addr) (c nw : Nat) (e : Au.Ev) (hn : b.m.L.length ≤ 90000) (nd : (b.m.L.map S127.h).Nodup) (hB : B ≤ w.heap.size) (hkr : KR w B (.slice A0 b.m.L.length c0) b.m.L) (hkw : KW w B (.slice A nw c) b.W) (hlen : b.W.length = nw) (hnw : nw ≤ 64) (hr : rightJ e = true) (hwl : e.wk < (nw : Int)) (hk : e.k = 1) :
  Calls Try.prog 28 #[.agg #[.int .i64 b.m.clk, .slice A0 b.m.L.length c0, .slice A nw c], .agg (evA e)] w (RhPost B w nw (rhearF b e)) := by
 have hu0 := Try.underlying46
 have hu1 := Try.underlying36
 have hu2 := Try.underlying50
 have hu3 := Try.underlying66
 have hu4 := Try.underlying43
 have hu5 := Try.underlying44
 have HF := Aside0.mk (show rhearF b e = (⟨(rdoF b.m e).1, b.W⟩, (rdoF b.m e).2) by unfold rhearF; rw [if_neg (by rw [hr, hlen]; simp; omega), if_pos hk])
 have d0 : decide (e.wk ≥ (nw : Int)) = false := decide_eq_false (by omega)
 have HWL := Aside0.mk hwl
 have qk1 : (e.k == 1) = true := beq_iff_eq.2 hk
 have qk2 : (e.k == 2) = false := beq_eq_false_iff_ne.2 (by omega)
 have qk3 : (e.k == 3) = false := beq_eq_false_iff_ne.2 (by omega)
 have qk4 : (e.k == 4) = false := beq_eq_false_iff_ne.2 (by omega)
 obtain ⟨⟨⟨clk1, L1⟩, k1⟩, hp⟩ : ∃ p, rdoF b.m e = p := ⟨_, rfl⟩
 have CD : Aside0 (∀ W, Rh B w W b A0 c0 A c nw e → Calls Try.prog 45 #[.agg #[.int .i64 b.m.clk, .slice A0 b.m.L.length c0], .agg (evA e)] W fun r w' => ∃ A1 c1, r = .returned (.tuple #[.agg #[.int .i64 clk1, .slice A1 L1.length c1], .int .i64 k1]) ∧ KR w' B (.slice A1 L1.length c1) L1 ∧ Below W.heap.size W w') := ⟨fun W hW => do_lit (w := w) b.m A0 c0 e hn nd (Nat.le_trans hB hW.below.size) hW.kr hp⟩
 rw [hp] at HF
 have CR := Aside0.mk (fun W => rright_run e W)
 rw [hr] at CR
 have HN := Aside0.mk hn
 have HND := Aside0.mk nd
 have HB := Aside0.mk hB
 have HNW := Aside0.mk hnw
 have HLEN := Aside0.mk hlen
 have HRT := Aside0.mk hr
 have HJ := Aside0.mk (Rh.start hkr hkw hlen e)
 clear hn nd hB hkr hkw hlen hnw hr hwl hk
 have hcb := fun i => blk_cell HJ.out.b_ i
 have hce := fun i => blk_cell HJ.out.e_ i
 have hlb := blk_lt HJ.out.b_
 have hle := blk_lt HJ.out.e_
 have hlr := blk_lt HJ.out.r
 go_enter Try.func28, Try.ntmps28
 clear hp
 go_wp2_with (first | (go_at_call 62; (with_reducible refine (CR.out _).mono ?_); rintro r w2 ⟨rfl, hb⟩; have HJ2 := Aside0.mk (HJ.out.step hb); clear hcb hce hlb hle hlr HJ; have HJ := HJ2; clear HJ2; have hcb := fun i => blk_cell HJ.out.b_ i; have hce := fun i => blk_cell HJ.out.e_ i; have hlb := blk_lt HJ.out.b_; have hle := blk_lt HJ.out.e_; have hlr := blk_lt HJ.out.r; clear hb) | (go_at_call 45; go_loud ((with_reducible refine (CD.out _ HJ.out).mono ?_); rintro r w3 ⟨A1, c1, rfl, hk1, hb⟩; have HJ2 := Aside0.mk (HJ.out.step hb); clear hcb hce hlb hle hlr HJ; have HJ := HJ2; clear HJ2; have hcb := fun i => blk_cell HJ.out.b_ i; have hce := fun i => blk_cell HJ.out.e_ i; have hlb := blk_lt HJ.out.b_; have hle := blk_lt HJ.out.e_; have hlr := blk_lt HJ.out.r; have HK1 := Aside0.mk hk1; clear hb hk1)) | ((with_reducible refine gate_store (t := 43) (p := 6) rfl ?_); go_loud (refine wpList_store_row rfl 43 _ _ rfl (w3.heap.size) #[.int .i64 clk1, .slice A1 L1.length c1] rfl rfl 43 _ (blk_new w3 (.cells #[.int .i64 0, .slice none 0 0] 43)) (by kernel_rfl) rfl (by simp [Value.oneCell']) ?_; have HT := Aside0.mk (HJ.out.newrow #[.int .i64 0, .slice none 0 0] #[.int .i64 clk1, .slice A1 L1.length c1] 43).2; have HK2 := Aside0.mk (KR.keep (Kd.R_below HK1.out (below_alloc (Below.refl _ _) (.cells #[.int .i64 0, .slice none 0 0] 43))) (W1 := (w3.alloc (.cells #[.int .i64 0, .slice none 0 0] 43)).setRow w3.heap.size #[.int .i64 clk1, .slice A1 L1.length c1]) (fun g cs hg => setRow_other _ _ g _ (types_ne hg (blk_new w3 _) (by decide)))); clear HK1; have HK1 := HK2; clear HK2; have hct := fun i => blk_cell HT.out i; have hlt := blk_lt HT.out; have HJ2 := Aside0.mk ((HJ.out.newrow #[.int .i64 0, .slice none 0 0] #[.int .i64 clk1, .slice A1 L1.length c1] 43).1); clear hcb hce hlb hle hlr HJ; have HJ := HJ2; clear HJ2; have hcb := fun i => blk_cell HJ.out.b_ i; have hce := fun i => blk_cell HJ.out.e_ i; have hlb := blk_lt HJ.out.b_; have hle := blk_lt HJ.out.e_; have hlr := blk_lt HJ.out.r)) | ((with_reducible refine gate_store (t := 43) (p := 36) rfl ?_); go_loud (refine wpList_store_new rfl 43 _ _ rfl (w.heap.size) 0 #[.int .i64 clk1, .slice A1 L1.length c1] #[.int .i64 clk1, .slice A1 L1.length c1, .slice A nw c] rfl rfl 46 _ HJ.out.b_ (by kernel_rfl) (by simp) (by simp [Value.oneCell']) rfl ?_; have HKW := Aside0.mk HJ.out.kw; have HPUT := Aside0.mk (HJ.out.put (b1 := ⟨⟨clk1, L1⟩, b.W⟩) HK1.out HKW.out HLEN.out); clear hct hlt HT; have HKQ := Aside0.mk HPUT.out.kr; clear hcb hce hlb hle hlr HJ; have hcb := fun i => blk_cell HPUT.out.b_ i; have hce := fun i => blk_cell HPUT.out.e_ i; have hlb := blk_lt HPUT.out.b_; have hle := blk_lt HPUT.out.e_; have hlr := blk_lt HPUT.out.r)) | ((with_reducible refine gate_store (t := 46) (p := 4) rfl ?_); go_loud (refine wpList_store_row rfl 46 _ _ rfl (w.heap.size + 1 + 1) #[.int .i64 clk1, .slice A1 L1.length c1, .slice A nw c] rfl rfl 46 _ HPUT.out.r (by kernel_rfl) rfl (by simp [Value.oneCell']) ?_; have HFIN := Aside0.mk (HPUT.out.fin #[.int .i64 clk1, .slice A1 L1.length c1, .slice A nw c] HPUT.out.kr HPUT.out.kw))))
 obtain ⟨hr9, hk9, hw9, hb9⟩ := HFIN.out
 unfold RhPost
 rw [HF.out]
 refine bodyPost_ret (v := .tuple #[.agg #[.int .i64 clk1, .slice A1 L1.length c1, .slice A nw c], .int .i64 k1]) ?_ rfl ⟨A1, c1, A, c, rfl, hk9, hw9, hb9, HLEN.out⟩
 have hrow := run_loadVar_row (P := Try.prog) _ (w.heap.size + 1 + 1) 46 46 _ (0, 0) _ hr9 hu0 rfl (by kernel_rfl)
 simp [results, Try.results28, asAddr, hrow]
theorem rhear_invoke_busy {w : World} {B : Nat} (b : Rb) (A0 : Option Addr) (c0 : Nat) (A : Option Addr) (c nw : Nat) (e : Au.Ev) (hn : b.m.L.length ≤ 90000) (nd : (b.m.L.map S127.h).Nodup) (hB : B ≤ w.heap.size) (hkr : KR w B (.slice A0 b.m.L.length c0) b.m.L) (hkw : KW w B (.slice A nw c) b.W) (hlen : b.W.length = nw) (hnw : nw ≤ 64) (hr : rightJ e = true) (hwl : e.wk < (nw : Int)) (hk : e.k = 2) (hi : ¬ (rd_T66 b.W e.wk).f0.f2 = 0) :
  Calls Try.prog 28 #[.agg #[.int .i64 b.m.clk, .slice A0 b.m.L.length c0, .slice A nw c], .agg (evA e)] w (RhPost B w nw (rhearF b e)) := by
 have hu0 := Try.underlying46
 have hu1 := Try.underlying36
 have hu2 := Try.underlying50
 have hu3 := Try.underlying66
 have hu4 := Try.underlying43
 have hu5 := Try.underlying44
 have HF := Aside0.mk (show rhearF b e = (b, 6) by unfold rhearF; rw [if_neg (by rw [hr, hlen]; simp; omega), if_neg (show ¬ e.k = 1 by omega), if_pos hk]; rw [if_neg hi])
 have h0 := right_wk hr
 have HW0 := Aside0.mk h0
 obtain ⟨g, rfl, _, _⟩ := work_at hlen hkw h0 hwl
 obtain ⟨x, hx⟩ : ∃ x, rd_T66 b.W e.wk = x := ⟨_, rfl⟩
 have HXX := Aside0.mk hx
 have p0 : (0 ≤ e.wk) = True := eq_true h0
 have q0 : (e.wk < (nw : Int)) = True := eq_true hwl
 have d0 : decide (e.wk ≥ (nw : Int)) = false := decide_eq_false (by omega)
 have HWL := Aside0.mk hwl
 have qk1 : (e.k == 1) = false := beq_eq_false_iff_ne.2 (by omega)
 have qk2 : (e.k == 2) = true := beq_iff_eq.2 hk
 have qk3 : (e.k == 3) = false := beq_eq_false_iff_ne.2 (by omega)
 have qk4 : (e.k == 4) = false := beq_eq_false_iff_ne.2 (by omega)
 rw [hx] at hi
 have i0 : (x.f0.f2 == 0) = false := beq_eq_false_iff_ne.2 (hi)
 have CR := Aside0.mk (fun W => rright_run e W)
 rw [hr] at CR
 have HN := Aside0.mk hn
 have HND := Aside0.mk nd
 have HB := Aside0.mk hB
 have HNW := Aside0.mk hnw
 have HLEN := Aside0.mk hlen
 have HRT := Aside0.mk hr
 have HJ := Aside0.mk (Rh.start hkr hkw hlen e)
 clear hn nd hB hkr hkw hlen hnw hr hwl hk hi
 have hcb := fun i => blk_cell HJ.out.b_ i
 have hce := fun i => blk_cell HJ.out.e_ i
 have hlb := blk_lt HJ.out.b_
 have hle := blk_lt HJ.out.e_
 have hlr := blk_lt HJ.out.r
 go_enter Try.func28, Try.ntmps28
 clear hx h0
 go_upto_region 8 with (first | (go_at_call 62; (with_reducible refine (CR.out _).mono ?_); rintro r w2 ⟨rfl, hb⟩; have HJ2 := Aside0.mk (HJ.out.step hb); clear hcb hce hlb hle hlr HJ; have HJ := HJ2; clear HJ2; have hcb := fun i => blk_cell HJ.out.b_ i; have hce := fun i => blk_cell HJ.out.e_ i; have hlb := blk_lt HJ.out.b_; have hle := blk_lt HJ.out.e_; have hlr := blk_lt HJ.out.r; clear hb) | ((with_reducible refine Go.Proofs.Ythniclbmpeklmaa.Ev.gate_load (t := 66) (p := 43) rfl ?_); go_loud (refine wpList_load_at rfl 66 _ rfl g (e.wk.toNat * 26) ?hx (wA x) _ ?hc hu3 rfl (wA_info x) ?_; (case hx => rfl); (case hc => obtain ⟨g2, q, _, q2⟩ := work_at HJ.out.len HJ.out.kw HW0.out HWL.out; rw [HXX.out] at q2; obtain rfl : g = g2 := (by injection q with q; injection q); exact q2))) | ((with_reducible refine gate_store (t := 66) (p := 8) rfl ?_); go_loud (refine wpList_store_row rfl 66 _ _ rfl (w2.heap.size) (wA x) rfl rfl 66 _ (blk_new w2 (.cells #[.int .i64 0, .int .i64 0, .int .i64 0, .int .i64 0, .int .i64 0, .int .i64 0, .int .i64 0, .int .i64 0, .int .i64 0, .int .i64 0, .bool false, .int .i64 0, .int .i64 0, .bool false, .int .i64 0, .int .i64 0, .int .i64 0, .int .i64 0, .int .i64 0, .int .i64 0, .int .i64 0, .int .i64 0, .int .i64 0, .int .i64 0, .bool false, .int .i64 0] 66)) (wA_info x) rfl (wA_one x) ?_; have HX := Aside0.mk (show Rx B w _ b A0 c0 (some ⟨g, 0, none⟩) c nw e w2.heap.size (wA x) from ⟨(HJ.out.newrow #[.int .i64 0, .int .i64 0, .int .i64 0, .int .i64 0, .int .i64 0, .int .i64 0, .int .i64 0, .int .i64 0, .int .i64 0, .int .i64 0, .bool false, .int .i64 0, .int .i64 0, .bool false, .int .i64 0, .int .i64 0, .int .i64 0, .int .i64 0, .int .i64 0, .int .i64 0, .int .i64 0, .int .i64 0, .int .i64 0, .int .i64 0, .bool false, .int .i64 0] (wA x) 66).1, (HJ.out.newrow #[.int .i64 0, .int .i64 0, .int .i64 0, .int .i64 0, .int .i64 0, .int .i64 0, .int .i64 0, .int .i64 0, .int .i64 0, .int .i64 0, .bool false, .int .i64 0, .int .i64 0, .bool false, .int .i64 0, .int .i64 0, .int .i64 0, .int .i64 0, .int .i64 0, .int .i64 0, .int .i64 0, .int .i64 0, .int .i64 0, .int .i64 0, .bool false, .int .i64 0] (wA x) 66).2, blk_lt HJ.out.r, own_ne HJ.out.len HJ.out.kw HW0.out HWL.out⟩); clear hcb hce hlb hle hlr HJ)))
 refine gen_world' (fun W => Rx B w W b A0 c0 (some ⟨g, 0, none⟩) c nw e w2.heap.size (wA x)) (by exact HX.out) fun W3 H3 => ?_
 have HX := Aside0.mk H3
 clear H3 p0 q0
 have hcb := fun i => blk_cell HX.out.rh.b_ i
 have hce := fun i => blk_cell HX.out.rh.e_ i
 have hlb := blk_lt HX.out.rh.b_
 have hle := blk_lt HX.out.rh.e_
 have hlr := blk_lt HX.out.rh.r
 have hcx := fun i => (show World.cell? _ ⟨w2.heap.size, i, none⟩ = (#[.int .i64 x.f0.f0, .int .i64 x.f0.f1, .int .i64 x.f0.f2, .int .i64 x.f0.f3.f0, .int .i64 x.f0.f3.f1, .int .i64 x.f0.f4.f0, .int .i64 x.f0.f4.f1, .int .i64 x.f0.f5, .int .i64 x.f0.f6, .int .i64 x.f0.f7, .bool x.f0.f8, .int .i64 x.f0.f9, .int .i64 x.f1, .bool x.f2, .int .i64 x.f3.f0, .int .i64 x.f3.f1, .int .i64 x.f3.f2, .int .i64 x.f3.f3.f0, .int .i64 x.f3.f3.f1, .int .i64 x.f3.f4.f0, .int .i64 x.f3.f4.f1, .int .i64 x.f3.f5, .int .i64 x.f3.f6, .int .i64 x.f3.f7, .bool x.f3.f8, .int .i64 x.f3.f9] : Array Value)[i]? from blk_cell HX.out.x_ i)
 have hlx := blk_lt HX.out.x_
 go_wp2_with (first | ((with_reducible refine gate_store (t := 46) (p := 4) rfl ?_); go_loud (refine wpList_store_row rfl 46 _ _ rfl (w.heap.size + 1 + 1) #[.int .i64 b.m.clk, .slice A0 b.m.L.length c0, .slice (some ⟨g, 0, none⟩) nw c] rfl rfl 46 _ HX.out.rh.r (by kernel_rfl) rfl (by simp [Value.oneCell']) ?_; have HFIN := Aside0.mk (HX.out.rh.fin #[.int .i64 b.m.clk, .slice A0 b.m.L.length c0, .slice (some ⟨g, 0, none⟩) nw c] HX.out.rh.kr HX.out.rh.kw))))
 obtain ⟨hr9, hk9, hw9, hb9⟩ := HFIN.out
 unfold RhPost
 rw [HF.out]
 refine bodyPost_ret (v := .tuple #[.agg #[.int .i64 b.m.clk, .slice A0 b.m.L.length c0, .slice (some ⟨g, 0, none⟩) nw c], .int .i64 6]) ?_ rfl ⟨A0, c0, some ⟨g, 0, none⟩, c, rfl, hk9, hw9, hb9, HLEN.out⟩
 have hrow := run_loadVar_row (P := Try.prog) _ (w.heap.size + 1 + 1) 46 46 _ (0, 0) _ hr9 hu0 rfl (by kernel_rfl)
 simp [results, Try.results28, asAddr, hrow]
theorem rhear_fire_op {w : World} {B : Nat} (b : Rb) (A0 : Option Addr) (c0 : Nat) (A : Option Addr) (c nw : Nat) (e : Au.Ev) (hn : b.m.L.length ≤ 90000) (nd : (b.m.L.map S127.h).Nodup) (hB : B ≤ w.heap.size) (hkr : KR w B (.slice A0 b.m.L.length c0) b.m.L) (hkw : KW w B (.slice A nw c) b.W) (hlen : b.W.length = nw) (hnw : nw ≤ 64) (hr : rightJ e = true) (hwl : e.wk < (nw : Int)) (hk : e.k = 4) (hi : ¬ (rd_T66 b.W e.wk).f0.f2 = 5) :
  Calls Try.prog 28 #[.agg #[.int .i64 b.m.clk, .slice A0 b.m.L.length c0, .slice A nw c], .agg (evA e)] w (RhPost B w nw (rhearF b e)) := by
 have hu0 := Try.underlying46
 have hu1 := Try.underlying36
 have hu2 := Try.underlying50
 have hu3 := Try.underlying66
 have hu4 := Try.underlying43
 have hu5 := Try.underlying44
 have HF := Aside0.mk (show rhearF b e = (b, 6) by unfold rhearF; rw [if_neg (by rw [hr, hlen]; simp; omega), if_neg (show ¬ e.k = 1 by omega), if_neg (show ¬ e.k = 2 by omega), if_neg (show ¬ e.k = 3 by omega), if_pos hk]; rw [if_neg (fun q => hi q.1)])
 have h0 := right_wk hr
 have HW0 := Aside0.mk h0
 obtain ⟨g, rfl, _, _⟩ := work_at hlen hkw h0 hwl
 obtain ⟨x, hx⟩ : ∃ x, rd_T66 b.W e.wk = x := ⟨_, rfl⟩
 have HXX := Aside0.mk hx
 have p0 : (0 ≤ e.wk) = True := eq_true h0
 have q0 : (e.wk < (nw : Int)) = True := eq_true hwl
 have d0 : decide (e.wk ≥ (nw : Int)) = false := decide_eq_false (by omega)
 have HWL := Aside0.mk hwl
 have qk1 : (e.k == 1) = false := beq_eq_false_iff_ne.2 (by omega)
 have qk2 : (e.k == 2) = false := beq_eq_false_iff_ne.2 (by omega)
 have qk3 : (e.k == 3) = false := beq_eq_false_iff_ne.2 (by omega)
 have qk4 : (e.k == 4) = true := beq_iff_eq.2 hk
 rw [hx] at hi
 have i5 : (x.f0.f2 == 5) = false := beq_eq_false_iff_ne.2 (hi)
 have CR := Aside0.mk (fun W => rright_run e W)
 rw [hr] at CR
 have HN := Aside0.mk hn
 have HND := Aside0.mk nd
 have HB := Aside0.mk hB
 have HNW := Aside0.mk hnw
 have HLEN := Aside0.mk hlen
 have HRT := Aside0.mk hr
 have HJ := Aside0.mk (Rh.start hkr hkw hlen e)
 clear hn nd hB hkr hkw hlen hnw hr hwl hk hi
 have hcb := fun i => blk_cell HJ.out.b_ i
 have hce := fun i => blk_cell HJ.out.e_ i
 have hlb := blk_lt HJ.out.b_
 have hle := blk_lt HJ.out.e_
 have hlr := blk_lt HJ.out.r
 go_enter Try.func28, Try.ntmps28
 clear hx h0
 go_upto_region 8 with (first | (go_at_call 62; (with_reducible refine (CR.out _).mono ?_); rintro r w2 ⟨rfl, hb⟩; have HJ2 := Aside0.mk (HJ.out.step hb); clear hcb hce hlb hle hlr HJ; have HJ := HJ2; clear HJ2; have hcb := fun i => blk_cell HJ.out.b_ i; have hce := fun i => blk_cell HJ.out.e_ i; have hlb := blk_lt HJ.out.b_; have hle := blk_lt HJ.out.e_; have hlr := blk_lt HJ.out.r; clear hb) | ((with_reducible refine Go.Proofs.Ythniclbmpeklmaa.Ev.gate_load (t := 66) (p := 43) rfl ?_); go_loud (refine wpList_load_at rfl 66 _ rfl g (e.wk.toNat * 26) ?hx (wA x) _ ?hc hu3 rfl (wA_info x) ?_; (case hx => rfl); (case hc => obtain ⟨g2, q, _, q2⟩ := work_at HJ.out.len HJ.out.kw HW0.out HWL.out; rw [HXX.out] at q2; obtain rfl : g = g2 := (by injection q with q; injection q); exact q2))) | ((with_reducible refine gate_store (t := 66) (p := 8) rfl ?_); go_loud (refine wpList_store_row rfl 66 _ _ rfl (w2.heap.size) (wA x) rfl rfl 66 _ (blk_new w2 (.cells #[.int .i64 0, .int .i64 0, .int .i64 0, .int .i64 0, .int .i64 0, .int .i64 0, .int .i64 0, .int .i64 0, .int .i64 0, .int .i64 0, .bool false, .int .i64 0, .int .i64 0, .bool false, .int .i64 0, .int .i64 0, .int .i64 0, .int .i64 0, .int .i64 0, .int .i64 0, .int .i64 0, .int .i64 0, .int .i64 0, .int .i64 0, .bool false, .int .i64 0] 66)) (wA_info x) rfl (wA_one x) ?_; have HX := Aside0.mk (show Rx B w _ b A0 c0 (some ⟨g, 0, none⟩) c nw e w2.heap.size (wA x) from ⟨(HJ.out.newrow #[.int .i64 0, .int .i64 0, .int .i64 0, .int .i64 0, .int .i64 0, .int .i64 0, .int .i64 0, .int .i64 0, .int .i64 0, .int .i64 0, .bool false, .int .i64 0, .int .i64 0, .bool false, .int .i64 0, .int .i64 0, .int .i64 0, .int .i64 0, .int .i64 0, .int .i64 0, .int .i64 0, .int .i64 0, .int .i64 0, .int .i64 0, .bool false, .int .i64 0] (wA x) 66).1, (HJ.out.newrow #[.int .i64 0, .int .i64 0, .int .i64 0, .int .i64 0, .int .i64 0, .int .i64 0, .int .i64 0, .int .i64 0, .int .i64 0, .int .i64 0, .bool false, .int .i64 0, .int .i64 0, .bool false, .int .i64 0, .int .i64 0, .int .i64 0, .int .i64 0, .int .i64 0, .int .i64 0, .int .i64 0, .int .i64 0, .int .i64 0, .int .i64 0, .bool false, .int .i64 0] (wA x) 66).2, blk_lt HJ.out.r, own_ne HJ.out.len HJ.out.kw HW0.out HWL.out⟩); clear hcb hce hlb hle hlr HJ)))
 refine gen_world' (fun W => Rx B w W b A0 c0 (some ⟨g, 0, none⟩) c nw e w2.heap.size (wA x)) (by exact HX.out) fun W3 H3 => ?_
 have HX := Aside0.mk H3
 clear H3 p0 q0
 have hcb := fun i => blk_cell HX.out.rh.b_ i
 have hce := fun i => blk_cell HX.out.rh.e_ i
 have hlb := blk_lt HX.out.rh.b_
 have hle := blk_lt HX.out.rh.e_
 have hlr := blk_lt HX.out.rh.r
 have hcx := fun i => (show World.cell? _ ⟨w2.heap.size, i, none⟩ = (#[.int .i64 x.f0.f0, .int .i64 x.f0.f1, .int .i64 x.f0.f2, .int .i64 x.f0.f3.f0, .int .i64 x.f0.f3.f1, .int .i64 x.f0.f4.f0, .int .i64 x.f0.f4.f1, .int .i64 x.f0.f5, .int .i64 x.f0.f6, .int .i64 x.f0.f7, .bool x.f0.f8, .int .i64 x.f0.f9, .int .i64 x.f1, .bool x.f2, .int .i64 x.f3.f0, .int .i64 x.f3.f1, .int .i64 x.f3.f2, .int .i64 x.f3.f3.f0, .int .i64 x.f3.f3.f1, .int .i64 x.f3.f4.f0, .int .i64 x.f3.f4.f1, .int .i64 x.f3.f5, .int .i64 x.f3.f6, .int .i64 x.f3.f7, .bool x.f3.f8, .int .i64 x.f3.f9] : Array Value)[i]? from blk_cell HX.out.x_ i)
 have hlx := blk_lt HX.out.x_
 go_wp2_with (first | ((with_reducible refine gate_store (t := 46) (p := 4) rfl ?_); go_loud (refine wpList_store_row rfl 46 _ _ rfl (w.heap.size + 1 + 1) #[.int .i64 b.m.clk, .slice A0 b.m.L.length c0, .slice (some ⟨g, 0, none⟩) nw c] rfl rfl 46 _ HX.out.rh.r (by kernel_rfl) rfl (by simp [Value.oneCell']) ?_; have HFIN := Aside0.mk (HX.out.rh.fin #[.int .i64 b.m.clk, .slice A0 b.m.L.length c0, .slice (some ⟨g, 0, none⟩) nw c] HX.out.rh.kr HX.out.rh.kw))))
 obtain ⟨hr9, hk9, hw9, hb9⟩ := HFIN.out
 unfold RhPost
 rw [HF.out]
 refine bodyPost_ret (v := .tuple #[.agg #[.int .i64 b.m.clk, .slice A0 b.m.L.length c0, .slice (some ⟨g, 0, none⟩) nw c], .int .i64 6]) ?_ rfl ⟨A0, c0, some ⟨g, 0, none⟩, c, rfl, hk9, hw9, hb9, HLEN.out⟩
 have hrow := run_loadVar_row (P := Try.prog) _ (w.heap.size + 1 + 1) 46 46 _ (0, 0) _ hr9 hu0 rfl (by kernel_rfl)
 simp [results, Try.results28, asAddr, hrow]
theorem rhear_fire_early {w : World} {B : Nat} (b : Rb) (A0 : Option Addr) (c0 : Nat) (A : Option Addr) (c nw : Nat) (e : Au.Ev) (hn : b.m.L.length ≤ 90000) (nd : (b.m.L.map S127.h).Nodup) (hB : B ≤ w.heap.size) (hkr : KR w B (.slice A0 b.m.L.length c0) b.m.L) (hkw : KW w B (.slice A nw c) b.W) (hlen : b.W.length = nw) (hnw : nw ≤ 64) (hr : rightJ e = true) (hwl : e.wk < (nw : Int)) (hk : e.k = 4) (hi : (rd_T66 b.W e.wk).f0.f2 = 5) (ht : ¬ (rd_T66 b.W e.wk).f1 ≤ e.t) :
  Calls Try.prog 28 #[.agg #[.int .i64 b.m.clk, .slice A0 b.m.L.length c0, .slice A nw c], .agg (evA e)] w (RhPost B w nw (rhearF b e)) := by
 have hu0 := Try.underlying46
 have hu1 := Try.underlying36
 have hu2 := Try.underlying50
 have hu3 := Try.underlying66
 have hu4 := Try.underlying43
 have hu5 := Try.underlying44
 have HF := Aside0.mk (show rhearF b e = (b, 6) by unfold rhearF; rw [if_neg (by rw [hr, hlen]; simp; omega), if_neg (show ¬ e.k = 1 by omega), if_neg (show ¬ e.k = 2 by omega), if_neg (show ¬ e.k = 3 by omega), if_pos hk]; rw [if_neg (fun q => ht q.2)])
 have h0 := right_wk hr
 have HW0 := Aside0.mk h0
 obtain ⟨g, rfl, _, _⟩ := work_at hlen hkw h0 hwl
 obtain ⟨x, hx⟩ : ∃ x, rd_T66 b.W e.wk = x := ⟨_, rfl⟩
 have HXX := Aside0.mk hx
 have p0 : (0 ≤ e.wk) = True := eq_true h0
 have q0 : (e.wk < (nw : Int)) = True := eq_true hwl
 have d0 : decide (e.wk ≥ (nw : Int)) = false := decide_eq_false (by omega)
 have HWL := Aside0.mk hwl
 have qk1 : (e.k == 1) = false := beq_eq_false_iff_ne.2 (by omega)
 have qk2 : (e.k == 2) = false := beq_eq_false_iff_ne.2 (by omega)
 have qk3 : (e.k == 3) = false := beq_eq_false_iff_ne.2 (by omega)
 have qk4 : (e.k == 4) = true := beq_iff_eq.2 hk
 rw [hx] at hi ht
 have i5 : (x.f0.f2 == 5) = true := beq_iff_eq.2 (hi)
 have t5 : decide (e.t ≥ x.f1) = false := decide_eq_false (by omega)
 have CR := Aside0.mk (fun W => rright_run e W)
 rw [hr] at CR
 have HN := Aside0.mk hn
 have HND := Aside0.mk nd
 have HB := Aside0.mk hB
 have HNW := Aside0.mk hnw
 have HLEN := Aside0.mk hlen
 have HRT := Aside0.mk hr
 have HJ := Aside0.mk (Rh.start hkr hkw hlen e)
 clear hn nd hB hkr hkw hlen hnw hr hwl hk hi ht
 have hcb := fun i => blk_cell HJ.out.b_ i
 have hce := fun i => blk_cell HJ.out.e_ i
 have hlb := blk_lt HJ.out.b_
 have hle := blk_lt HJ.out.e_
 have hlr := blk_lt HJ.out.r
 go_enter Try.func28, Try.ntmps28
 clear hx h0
 go_upto_region 8 with (first | (go_at_call 62; (with_reducible refine (CR.out _).mono ?_); rintro r w2 ⟨rfl, hb⟩; have HJ2 := Aside0.mk (HJ.out.step hb); clear hcb hce hlb hle hlr HJ; have HJ := HJ2; clear HJ2; have hcb := fun i => blk_cell HJ.out.b_ i; have hce := fun i => blk_cell HJ.out.e_ i; have hlb := blk_lt HJ.out.b_; have hle := blk_lt HJ.out.e_; have hlr := blk_lt HJ.out.r; clear hb) | ((with_reducible refine Go.Proofs.Ythniclbmpeklmaa.Ev.gate_load (t := 66) (p := 43) rfl ?_); go_loud (refine wpList_load_at rfl 66 _ rfl g (e.wk.toNat * 26) ?hx (wA x) _ ?hc hu3 rfl (wA_info x) ?_; (case hx => rfl); (case hc => obtain ⟨g2, q, _, q2⟩ := work_at HJ.out.len HJ.out.kw HW0.out HWL.out; rw [HXX.out] at q2; obtain rfl : g = g2 := (by injection q with q; injection q); exact q2))) | ((with_reducible refine gate_store (t := 66) (p := 8) rfl ?_); go_loud (refine wpList_store_row rfl 66 _ _ rfl (w2.heap.size) (wA x) rfl rfl 66 _ (blk_new w2 (.cells #[.int .i64 0, .int .i64 0, .int .i64 0, .int .i64 0, .int .i64 0, .int .i64 0, .int .i64 0, .int .i64 0, .int .i64 0, .int .i64 0, .bool false, .int .i64 0, .int .i64 0, .bool false, .int .i64 0, .int .i64 0, .int .i64 0, .int .i64 0, .int .i64 0, .int .i64 0, .int .i64 0, .int .i64 0, .int .i64 0, .int .i64 0, .bool false, .int .i64 0] 66)) (wA_info x) rfl (wA_one x) ?_; have HX := Aside0.mk (show Rx B w _ b A0 c0 (some ⟨g, 0, none⟩) c nw e w2.heap.size (wA x) from ⟨(HJ.out.newrow #[.int .i64 0, .int .i64 0, .int .i64 0, .int .i64 0, .int .i64 0, .int .i64 0, .int .i64 0, .int .i64 0, .int .i64 0, .int .i64 0, .bool false, .int .i64 0, .int .i64 0, .bool false, .int .i64 0, .int .i64 0, .int .i64 0, .int .i64 0, .int .i64 0, .int .i64 0, .int .i64 0, .int .i64 0, .int .i64 0, .int .i64 0, .bool false, .int .i64 0] (wA x) 66).1, (HJ.out.newrow #[.int .i64 0, .int .i64 0, .int .i64 0, .int .i64 0, .int .i64 0, .int .i64 0, .int .i64 0, .int .i64 0, .int .i64 0, .int .i64 0, .bool false, .int .i64 0, .int .i64 0, .bool false, .int .i64 0, .int .i64 0, .int .i64 0, .int .i64 0, .int .i64 0, .int .i64 0, .int .i64 0, .int .i64 0, .int .i64 0, .int .i64 0, .bool false, .int .i64 0] (wA x) 66).2, blk_lt HJ.out.r, own_ne HJ.out.len HJ.out.kw HW0.out HWL.out⟩); clear hcb hce hlb hle hlr HJ)))
 refine gen_world' (fun W => Rx B w W b A0 c0 (some ⟨g, 0, none⟩) c nw e w2.heap.size (wA x)) (by exact HX.out) fun W3 H3 => ?_
 have HX := Aside0.mk H3
 clear H3 p0 q0
 have hcb := fun i => blk_cell HX.out.rh.b_ i
 have hce := fun i => blk_cell HX.out.rh.e_ i
 have hlb := blk_lt HX.out.rh.b_
 have hle := blk_lt HX.out.rh.e_
 have hlr := blk_lt HX.out.rh.r
 have hcx := fun i => (show World.cell? _ ⟨w2.heap.size, i, none⟩ = (#[.int .i64 x.f0.f0, .int .i64 x.f0.f1, .int .i64 x.f0.f2, .int .i64 x.f0.f3.f0, .int .i64 x.f0.f3.f1, .int .i64 x.f0.f4.f0, .int .i64 x.f0.f4.f1, .int .i64 x.f0.f5, .int .i64 x.f0.f6, .int .i64 x.f0.f7, .bool x.f0.f8, .int .i64 x.f0.f9, .int .i64 x.f1, .bool x.f2, .int .i64 x.f3.f0, .int .i64 x.f3.f1, .int .i64 x.f3.f2, .int .i64 x.f3.f3.f0, .int .i64 x.f3.f3.f1, .int .i64 x.f3.f4.f0, .int .i64 x.f3.f4.f1, .int .i64 x.f3.f5, .int .i64 x.f3.f6, .int .i64 x.f3.f7, .bool x.f3.f8, .int .i64 x.f3.f9] : Array Value)[i]? from blk_cell HX.out.x_ i)
 have hlx := blk_lt HX.out.x_
 go_wp2_with (first | ((with_reducible refine gate_store (t := 46) (p := 4) rfl ?_); go_loud (refine wpList_store_row rfl 46 _ _ rfl (w.heap.size + 1 + 1) #[.int .i64 b.m.clk, .slice A0 b.m.L.length c0, .slice (some ⟨g, 0, none⟩) nw c] rfl rfl 46 _ HX.out.rh.r (by kernel_rfl) rfl (by simp [Value.oneCell']) ?_; have HFIN := Aside0.mk (HX.out.rh.fin #[.int .i64 b.m.clk, .slice A0 b.m.L.length c0, .slice (some ⟨g, 0, none⟩) nw c] HX.out.rh.kr HX.out.rh.kw))))
 obtain ⟨hr9, hk9, hw9, hb9⟩ := HFIN.out
 unfold RhPost
 rw [HF.out]
 refine bodyPost_ret (v := .tuple #[.agg #[.int .i64 b.m.clk, .slice A0 b.m.L.length c0, .slice (some ⟨g, 0, none⟩) nw c], .int .i64 6]) ?_ rfl ⟨A0, c0, some ⟨g, 0, none⟩, c, rfl, hk9, hw9, hb9, HLEN.out⟩
 have hrow := run_loadVar_row (P := Try.prog) _ (w.heap.size + 1 + 1) 46 46 _ (0, 0) _ hr9 hu0 rfl (by kernel_rfl)
 simp [results, Try.results28, asAddr, hrow]
theorem rhear_back_op_hi {w : World} {B : Nat} (b : Rb) (A0 : Option Addr) (c0 : Nat) (A : Option Addr) (c nw : Nat) (e : Au.Ev) (hn : b.m.L.length ≤ 90000) (nd : (b.m.L.map S127.h).Nodup) (hB : B ≤ w.heap.size) (hkr : KR w B (.slice A0 b.m.L.length c0) b.m.L) (hkw : KW w B (.slice A nw c) b.W) (hlen : b.W.length = nw) (hnw : nw ≤ 64) (hr : rightJ e = true) (hwl : e.wk < (nw : Int)) (hk : e.k = 5) (ho : ¬ (rd_T66 b.W e.wk).f0.f2 = e.op) (h4 : ¬ e.op ≤ 4) :
  Calls Try.prog 28 #[.agg #[.int .i64 b.m.clk, .slice A0 b.m.L.length c0, .slice A nw c], .agg (evA e)] w (RhPost B w nw (rhearF b e)) := by
 have hu0 := Try.underlying46
 have hu1 := Try.underlying36
 have hu2 := Try.underlying50
 have hu3 := Try.underlying66
 have hu4 := Try.underlying43
 have hu5 := Try.underlying44
 have HF := Aside0.mk (show rhearF b e = (b, 6) by unfold rhearF; rw [if_neg (by rw [hr, hlen]; simp; omega), if_neg (show ¬ e.k = 1 by omega), if_neg (show ¬ e.k = 2 by omega), if_neg (show ¬ e.k = 3 by omega), if_neg (show ¬ e.k = 4 by omega)]; rw [if_neg (by unfold rans; simp only [Bool.and_eq_true, Bool.or_eq_true, beq_iff_eq, Bool.not_eq_true', decide_eq_false_iff_not]; simp_all)])
 have h0 := right_wk hr
 have HW0 := Aside0.mk h0
 obtain ⟨g, rfl, _, _⟩ := work_at hlen hkw h0 hwl
 obtain ⟨x, hx⟩ : ∃ x, rd_T66 b.W e.wk = x := ⟨_, rfl⟩
 have HXX := Aside0.mk hx
 have p0 : (0 ≤ e.wk) = True := eq_true h0
 have q0 : (e.wk < (nw : Int)) = True := eq_true hwl
 have d0 : decide (e.wk ≥ (nw : Int)) = false := decide_eq_false (by omega)
 have HWL := Aside0.mk hwl
 have qk1 : (e.k == 1) = false := beq_eq_false_iff_ne.2 (by omega)
 have qk2 : (e.k == 2) = false := beq_eq_false_iff_ne.2 (by omega)
 have qk3 : (e.k == 3) = false := beq_eq_false_iff_ne.2 (by omega)
 have qk4 : (e.k == 4) = false := beq_eq_false_iff_ne.2 (by omega)
 rw [hx] at ho
 have o0 : (x.f0.f2 == e.op) = false := beq_eq_false_iff_ne.2 (ho)
 have l4 : decide (e.op ≤ 4) = false := decide_eq_false (h4)
 have CR := Aside0.mk (fun W => rright_run e W)
 rw [hr] at CR
 have HN := Aside0.mk hn
 have HND := Aside0.mk nd
 have HB := Aside0.mk hB
 have HNW := Aside0.mk hnw
 have HLEN := Aside0.mk hlen
 have HRT := Aside0.mk hr
 have HJ := Aside0.mk (Rh.start hkr hkw hlen e)
 clear hn nd hB hkr hkw hlen hnw hr hwl hk ho h4
 have hcb := fun i => blk_cell HJ.out.b_ i
 have hce := fun i => blk_cell HJ.out.e_ i
 have hlb := blk_lt HJ.out.b_
 have hle := blk_lt HJ.out.e_
 have hlr := blk_lt HJ.out.r
 go_enter Try.func28, Try.ntmps28
 clear hx h0
 go_upto_region 8 with (first | (go_at_call 62; (with_reducible refine (CR.out _).mono ?_); rintro r w2 ⟨rfl, hb⟩; have HJ2 := Aside0.mk (HJ.out.step hb); clear hcb hce hlb hle hlr HJ; have HJ := HJ2; clear HJ2; have hcb := fun i => blk_cell HJ.out.b_ i; have hce := fun i => blk_cell HJ.out.e_ i; have hlb := blk_lt HJ.out.b_; have hle := blk_lt HJ.out.e_; have hlr := blk_lt HJ.out.r; clear hb) | ((with_reducible refine Go.Proofs.Ythniclbmpeklmaa.Ev.gate_load (t := 66) (p := 43) rfl ?_); go_loud (refine wpList_load_at rfl 66 _ rfl g (e.wk.toNat * 26) ?hx (wA x) _ ?hc hu3 rfl (wA_info x) ?_; (case hx => rfl); (case hc => obtain ⟨g2, q, _, q2⟩ := work_at HJ.out.len HJ.out.kw HW0.out HWL.out; rw [HXX.out] at q2; obtain rfl : g = g2 := (by injection q with q; injection q); exact q2))) | ((with_reducible refine gate_store (t := 66) (p := 8) rfl ?_); go_loud (refine wpList_store_row rfl 66 _ _ rfl (w2.heap.size) (wA x) rfl rfl 66 _ (blk_new w2 (.cells #[.int .i64 0, .int .i64 0, .int .i64 0, .int .i64 0, .int .i64 0, .int .i64 0, .int .i64 0, .int .i64 0, .int .i64 0, .int .i64 0, .bool false, .int .i64 0, .int .i64 0, .bool false, .int .i64 0, .int .i64 0, .int .i64 0, .int .i64 0, .int .i64 0, .int .i64 0, .int .i64 0, .int .i64 0, .int .i64 0, .int .i64 0, .bool false, .int .i64 0] 66)) (wA_info x) rfl (wA_one x) ?_; have HX := Aside0.mk (show Rx B w _ b A0 c0 (some ⟨g, 0, none⟩) c nw e w2.heap.size (wA x) from ⟨(HJ.out.newrow #[.int .i64 0, .int .i64 0, .int .i64 0, .int .i64 0, .int .i64 0, .int .i64 0, .int .i64 0, .int .i64 0, .int .i64 0, .int .i64 0, .bool false, .int .i64 0, .int .i64 0, .bool false, .int .i64 0, .int .i64 0, .int .i64 0, .int .i64 0, .int .i64 0, .int .i64 0, .int .i64 0, .int .i64 0, .int .i64 0, .int .i64 0, .bool false, .int .i64 0] (wA x) 66).1, (HJ.out.newrow #[.int .i64 0, .int .i64 0, .int .i64 0, .int .i64 0, .int .i64 0, .int .i64 0, .int .i64 0, .int .i64 0, .int .i64 0, .int .i64 0, .bool false, .int .i64 0, .int .i64 0, .bool false, .int .i64 0, .int .i64 0, .int .i64 0, .int .i64 0, .int .i64 0, .int .i64 0, .int .i64 0, .int .i64 0, .int .i64 0, .int .i64 0, .bool false, .int .i64 0] (wA x) 66).2, blk_lt HJ.out.r, own_ne HJ.out.len HJ.out.kw HW0.out HWL.out⟩); clear hcb hce hlb hle hlr HJ)))
 refine gen_world' (fun W => Rx B w W b A0 c0 (some ⟨g, 0, none⟩) c nw e w2.heap.size (wA x)) (by exact HX.out) fun W3 H3 => ?_
 have HX := Aside0.mk H3
 clear H3 p0 q0
 have hcb := fun i => blk_cell HX.out.rh.b_ i
 have hce := fun i => blk_cell HX.out.rh.e_ i
 have hlb := blk_lt HX.out.rh.b_
 have hle := blk_lt HX.out.rh.e_
 have hlr := blk_lt HX.out.rh.r
 have hcx := fun i => (show World.cell? _ ⟨w2.heap.size, i, none⟩ = (#[.int .i64 x.f0.f0, .int .i64 x.f0.f1, .int .i64 x.f0.f2, .int .i64 x.f0.f3.f0, .int .i64 x.f0.f3.f1, .int .i64 x.f0.f4.f0, .int .i64 x.f0.f4.f1, .int .i64 x.f0.f5, .int .i64 x.f0.f6, .int .i64 x.f0.f7, .bool x.f0.f8, .int .i64 x.f0.f9, .int .i64 x.f1, .bool x.f2, .int .i64 x.f3.f0, .int .i64 x.f3.f1, .int .i64 x.f3.f2, .int .i64 x.f3.f3.f0, .int .i64 x.f3.f3.f1, .int .i64 x.f3.f4.f0, .int .i64 x.f3.f4.f1, .int .i64 x.f3.f5, .int .i64 x.f3.f6, .int .i64 x.f3.f7, .bool x.f3.f8, .int .i64 x.f3.f9] : Array Value)[i]? from blk_cell HX.out.x_ i)
 have hlx := blk_lt HX.out.x_
 go_wp2_with (first | ((with_reducible refine gate_store (t := 46) (p := 4) rfl ?_); go_loud (refine wpList_store_row rfl 46 _ _ rfl (w.heap.size + 1 + 1) #[.int .i64 b.m.clk, .slice A0 b.m.L.length c0, .slice (some ⟨g, 0, none⟩) nw c] rfl rfl 46 _ HX.out.rh.r (by kernel_rfl) rfl (by simp [Value.oneCell']) ?_; have HFIN := Aside0.mk (HX.out.rh.fin #[.int .i64 b.m.clk, .slice A0 b.m.L.length c0, .slice (some ⟨g, 0, none⟩) nw c] HX.out.rh.kr HX.out.rh.kw))))
 obtain ⟨hr9, hk9, hw9, hb9⟩ := HFIN.out
 unfold RhPost
 rw [HF.out]
 refine bodyPost_ret (v := .tuple #[.agg #[.int .i64 b.m.clk, .slice A0 b.m.L.length c0, .slice (some ⟨g, 0, none⟩) nw c], .int .i64 6]) ?_ rfl ⟨A0, c0, some ⟨g, 0, none⟩, c, rfl, hk9, hw9, hb9, HLEN.out⟩
 have hrow := run_loadVar_row (P := Try.prog) _ (w.heap.size + 1 + 1) 46 46 _ (0, 0) _ hr9 hu0 rfl (by kernel_rfl)
 simp [results, Try.results28, asAddr, hrow]
theorem rhear_back_op_lo {w : World} {B : Nat} (b : Rb) (A0 : Option Addr) (c0 : Nat) (A : Option Addr) (c nw : Nat) (e : Au.Ev) (hn : b.m.L.length ≤ 90000) (nd : (b.m.L.map S127.h).Nodup) (hB : B ≤ w.heap.size) (hkr : KR w B (.slice A0 b.m.L.length c0) b.m.L) (hkw : KW w B (.slice A nw c) b.W) (hlen : b.W.length = nw) (hnw : nw ≤ 64) (hr : rightJ e = true) (hwl : e.wk < (nw : Int)) (hk : e.k = 5) (ho : ¬ (rd_T66 b.W e.wk).f0.f2 = e.op) (h4 : e.op ≤ 4) :
  Calls Try.prog 28 #[.agg #[.int .i64 b.m.clk, .slice A0 b.m.L.length c0, .slice A nw c], .agg (evA e)] w (RhPost B w nw (rhearF b e)) := by
 have hu0 := Try.underlying46
 have hu1 := Try.underlying36
 have hu2 := Try.underlying50
 have hu3 := Try.underlying66
 have hu4 := Try.underlying43
 have hu5 := Try.underlying44
 have HF := Aside0.mk (show rhearF b e = (b, 6) by unfold rhearF; rw [if_neg (by rw [hr, hlen]; simp; omega), if_neg (show ¬ e.k = 1 by omega), if_neg (show ¬ e.k = 2 by omega), if_neg (show ¬ e.k = 3 by omega), if_neg (show ¬ e.k = 4 by omega)]; rw [if_neg (by unfold rans; simp only [Bool.and_eq_true, Bool.or_eq_true, beq_iff_eq, Bool.not_eq_true', decide_eq_false_iff_not]; simp_all)])
 have h0 := right_wk hr
 have HW0 := Aside0.mk h0
 obtain ⟨g, rfl, _, _⟩ := work_at hlen hkw h0 hwl
 obtain ⟨x, hx⟩ : ∃ x, rd_T66 b.W e.wk = x := ⟨_, rfl⟩
 have HXX := Aside0.mk hx
 have p0 : (0 ≤ e.wk) = True := eq_true h0
 have q0 : (e.wk < (nw : Int)) = True := eq_true hwl
 have d0 : decide (e.wk ≥ (nw : Int)) = false := decide_eq_false (by omega)
 have HWL := Aside0.mk hwl
 have qk1 : (e.k == 1) = false := beq_eq_false_iff_ne.2 (by omega)
 have qk2 : (e.k == 2) = false := beq_eq_false_iff_ne.2 (by omega)
 have qk3 : (e.k == 3) = false := beq_eq_false_iff_ne.2 (by omega)
 have qk4 : (e.k == 4) = false := beq_eq_false_iff_ne.2 (by omega)
 rw [hx] at ho
 have o0 : (x.f0.f2 == e.op) = false := beq_eq_false_iff_ne.2 (ho)
 have l4 : decide (e.op ≤ 4) = true := decide_eq_true (h4)
 have CR := Aside0.mk (fun W => rright_run e W)
 rw [hr] at CR
 have HN := Aside0.mk hn
 have HND := Aside0.mk nd
 have HB := Aside0.mk hB
 have HNW := Aside0.mk hnw
 have HLEN := Aside0.mk hlen
 have HRT := Aside0.mk hr
 have HJ := Aside0.mk (Rh.start hkr hkw hlen e)
 clear hn nd hB hkr hkw hlen hnw hr hwl hk ho h4
 have hcb := fun i => blk_cell HJ.out.b_ i
 have hce := fun i => blk_cell HJ.out.e_ i
 have hlb := blk_lt HJ.out.b_
 have hle := blk_lt HJ.out.e_
 have hlr := blk_lt HJ.out.r
 go_enter Try.func28, Try.ntmps28
 clear hx h0
 go_upto_region 8 with (first | (go_at_call 62; (with_reducible refine (CR.out _).mono ?_); rintro r w2 ⟨rfl, hb⟩; have HJ2 := Aside0.mk (HJ.out.step hb); clear hcb hce hlb hle hlr HJ; have HJ := HJ2; clear HJ2; have hcb := fun i => blk_cell HJ.out.b_ i; have hce := fun i => blk_cell HJ.out.e_ i; have hlb := blk_lt HJ.out.b_; have hle := blk_lt HJ.out.e_; have hlr := blk_lt HJ.out.r; clear hb) | ((with_reducible refine Go.Proofs.Ythniclbmpeklmaa.Ev.gate_load (t := 66) (p := 43) rfl ?_); go_loud (refine wpList_load_at rfl 66 _ rfl g (e.wk.toNat * 26) ?hx (wA x) _ ?hc hu3 rfl (wA_info x) ?_; (case hx => rfl); (case hc => obtain ⟨g2, q, _, q2⟩ := work_at HJ.out.len HJ.out.kw HW0.out HWL.out; rw [HXX.out] at q2; obtain rfl : g = g2 := (by injection q with q; injection q); exact q2))) | ((with_reducible refine gate_store (t := 66) (p := 8) rfl ?_); go_loud (refine wpList_store_row rfl 66 _ _ rfl (w2.heap.size) (wA x) rfl rfl 66 _ (blk_new w2 (.cells #[.int .i64 0, .int .i64 0, .int .i64 0, .int .i64 0, .int .i64 0, .int .i64 0, .int .i64 0, .int .i64 0, .int .i64 0, .int .i64 0, .bool false, .int .i64 0, .int .i64 0, .bool false, .int .i64 0, .int .i64 0, .int .i64 0, .int .i64 0, .int .i64 0, .int .i64 0, .int .i64 0, .int .i64 0, .int .i64 0, .int .i64 0, .bool false, .int .i64 0] 66)) (wA_info x) rfl (wA_one x) ?_; have HX := Aside0.mk (show Rx B w _ b A0 c0 (some ⟨g, 0, none⟩) c nw e w2.heap.size (wA x) from ⟨(HJ.out.newrow #[.int .i64 0, .int .i64 0, .int .i64 0, .int .i64 0, .int .i64 0, .int .i64 0, .int .i64 0, .int .i64 0, .int .i64 0, .int .i64 0, .bool false, .int .i64 0, .int .i64 0, .bool false, .int .i64 0, .int .i64 0, .int .i64 0, .int .i64 0, .int .i64 0, .int .i64 0, .int .i64 0, .int .i64 0, .int .i64 0, .int .i64 0, .bool false, .int .i64 0] (wA x) 66).1, (HJ.out.newrow #[.int .i64 0, .int .i64 0, .int .i64 0, .int .i64 0, .int .i64 0, .int .i64 0, .int .i64 0, .int .i64 0, .int .i64 0, .int .i64 0, .bool false, .int .i64 0, .int .i64 0, .bool false, .int .i64 0, .int .i64 0, .int .i64 0, .int .i64 0, .int .i64 0, .int .i64 0, .int .i64 0, .int .i64 0, .int .i64 0, .int .i64 0, .bool false, .int .i64 0] (wA x) 66).2, blk_lt HJ.out.r, own_ne HJ.out.len HJ.out.kw HW0.out HWL.out⟩); clear hcb hce hlb hle hlr HJ)))
 refine gen_world' (fun W => Rx B w W b A0 c0 (some ⟨g, 0, none⟩) c nw e w2.heap.size (wA x)) (by exact HX.out) fun W3 H3 => ?_
 have HX := Aside0.mk H3
 clear H3 p0 q0
 have hcb := fun i => blk_cell HX.out.rh.b_ i
 have hce := fun i => blk_cell HX.out.rh.e_ i
 have hlb := blk_lt HX.out.rh.b_
 have hle := blk_lt HX.out.rh.e_
 have hlr := blk_lt HX.out.rh.r
 have hcx := fun i => (show World.cell? _ ⟨w2.heap.size, i, none⟩ = (#[.int .i64 x.f0.f0, .int .i64 x.f0.f1, .int .i64 x.f0.f2, .int .i64 x.f0.f3.f0, .int .i64 x.f0.f3.f1, .int .i64 x.f0.f4.f0, .int .i64 x.f0.f4.f1, .int .i64 x.f0.f5, .int .i64 x.f0.f6, .int .i64 x.f0.f7, .bool x.f0.f8, .int .i64 x.f0.f9, .int .i64 x.f1, .bool x.f2, .int .i64 x.f3.f0, .int .i64 x.f3.f1, .int .i64 x.f3.f2, .int .i64 x.f3.f3.f0, .int .i64 x.f3.f3.f1, .int .i64 x.f3.f4.f0, .int .i64 x.f3.f4.f1, .int .i64 x.f3.f5, .int .i64 x.f3.f6, .int .i64 x.f3.f7, .bool x.f3.f8, .int .i64 x.f3.f9] : Array Value)[i]? from blk_cell HX.out.x_ i)
 have hlx := blk_lt HX.out.x_
 go_wp2_with (first | ((with_reducible refine gate_store (t := 46) (p := 4) rfl ?_); go_loud (refine wpList_store_row rfl 46 _ _ rfl (w.heap.size + 1 + 1) #[.int .i64 b.m.clk, .slice A0 b.m.L.length c0, .slice (some ⟨g, 0, none⟩) nw c] rfl rfl 46 _ HX.out.rh.r (by kernel_rfl) rfl (by simp [Value.oneCell']) ?_; have HFIN := Aside0.mk (HX.out.rh.fin #[.int .i64 b.m.clk, .slice A0 b.m.L.length c0, .slice (some ⟨g, 0, none⟩) nw c] HX.out.rh.kr HX.out.rh.kw))))
 obtain ⟨hr9, hk9, hw9, hb9⟩ := HFIN.out
 unfold RhPost
 rw [HF.out]
 refine bodyPost_ret (v := .tuple #[.agg #[.int .i64 b.m.clk, .slice A0 b.m.L.length c0, .slice (some ⟨g, 0, none⟩) nw c], .int .i64 6]) ?_ rfl ⟨A0, c0, some ⟨g, 0, none⟩, c, rfl, hk9, hw9, hb9, HLEN.out⟩
 have hrow := run_loadVar_row (P := Try.prog) _ (w.heap.size + 1 + 1) 46 46 _ (0, 0) _ hr9 hu0 rfl (by kernel_rfl)
 simp [results, Try.results28, asAddr, hrow]
theorem rhear_back_un {w : World} {B : Nat} (b : Rb) (A0 : Option Addr) (c0 : Nat) (A : Option Addr) (c nw : Nat) (e : Au.Ev) (hn : b.m.L.length ≤ 90000) (nd : (b.m.L.map S127.h).Nodup) (hB : B ≤ w.heap.size) (hkr : KR w B (.slice A0 b.m.L.length c0) b.m.L) (hkw : KW w B (.slice A nw c) b.W) (hlen : b.W.length = nw) (hnw : nw ≤ 64) (hr : rightJ e = true) (hwl : e.wk < (nw : Int)) (hk : e.k = 5) (ho : (rd_T66 b.W e.wk).f0.f2 = e.op) (h4 : e.op ≤ 4) (hp : (rd_T66 b.W e.wk).f2 = false) :
  Calls Try.prog 28 #[.agg #[.int .i64 b.m.clk, .slice A0 b.m.L.length c0, .slice A nw c], .agg (evA e)] w (RhPost B w nw (rhearF b e)) := by
 have hu0 := Try.underlying46
 have hu1 := Try.underlying36
 have hu2 := Try.underlying50
 have hu3 := Try.underlying66
 have hu4 := Try.underlying43
 have hu5 := Try.underlying44
 have HF := Aside0.mk (show rhearF b e = (b, 6) by unfold rhearF; rw [if_neg (by rw [hr, hlen]; simp; omega), if_neg (show ¬ e.k = 1 by omega), if_neg (show ¬ e.k = 2 by omega), if_neg (show ¬ e.k = 3 by omega), if_neg (show ¬ e.k = 4 by omega)]; rw [if_neg (by unfold rans; simp only [Bool.and_eq_true, Bool.or_eq_true, beq_iff_eq, Bool.not_eq_true', decide_eq_false_iff_not]; simp_all)])
 have h0 := right_wk hr
 have HW0 := Aside0.mk h0
 obtain ⟨g, rfl, _, _⟩ := work_at hlen hkw h0 hwl
 obtain ⟨x, hx⟩ : ∃ x, rd_T66 b.W e.wk = x := ⟨_, rfl⟩
 have HXX := Aside0.mk hx
 have p0 : (0 ≤ e.wk) = True := eq_true h0
 have q0 : (e.wk < (nw : Int)) = True := eq_true hwl
 have d0 : decide (e.wk ≥ (nw : Int)) = false := decide_eq_false (by omega)
 have HWL := Aside0.mk hwl
 have qk1 : (e.k == 1) = false := beq_eq_false_iff_ne.2 (by omega)
 have qk2 : (e.k == 2) = false := beq_eq_false_iff_ne.2 (by omega)
 have qk3 : (e.k == 3) = false := beq_eq_false_iff_ne.2 (by omega)
 have qk4 : (e.k == 4) = false := beq_eq_false_iff_ne.2 (by omega)
 rw [hx] at ho hp
 have o0 : (x.f0.f2 == e.op) = true := beq_iff_eq.2 (ho)
 have l4 : decide (e.op ≤ 4) = true := decide_eq_true (h4)
 have zhp := hp
 have CR := Aside0.mk (fun W => rright_run e W)
 rw [hr] at CR
 have HN := Aside0.mk hn
 have HND := Aside0.mk nd
 have HB := Aside0.mk hB
 have HNW := Aside0.mk hnw
 have HLEN := Aside0.mk hlen
 have HRT := Aside0.mk hr
 have HJ := Aside0.mk (Rh.start hkr hkw hlen e)
 clear hn nd hB hkr hkw hlen hnw hr hwl hk ho h4 hp
 have hcb := fun i => blk_cell HJ.out.b_ i
 have hce := fun i => blk_cell HJ.out.e_ i
 have hlb := blk_lt HJ.out.b_
 have hle := blk_lt HJ.out.e_
 have hlr := blk_lt HJ.out.r
 go_enter Try.func28, Try.ntmps28
 clear hx h0
 go_upto_region 8 with (first | (go_at_call 62; (with_reducible refine (CR.out _).mono ?_); rintro r w2 ⟨rfl, hb⟩; have HJ2 := Aside0.mk (HJ.out.step hb); clear hcb hce hlb hle hlr HJ; have HJ := HJ2; clear HJ2; have hcb := fun i => blk_cell HJ.out.b_ i; have hce := fun i => blk_cell HJ.out.e_ i; have hlb := blk_lt HJ.out.b_; have hle := blk_lt HJ.out.e_; have hlr := blk_lt HJ.out.r; clear hb) | ((with_reducible refine Go.Proofs.Ythniclbmpeklmaa.Ev.gate_load (t := 66) (p := 43) rfl ?_); go_loud (refine wpList_load_at rfl 66 _ rfl g (e.wk.toNat * 26) ?hx (wA x) _ ?hc hu3 rfl (wA_info x) ?_; (case hx => rfl); (case hc => obtain ⟨g2, q, _, q2⟩ := work_at HJ.out.len HJ.out.kw HW0.out HWL.out; rw [HXX.out] at q2; obtain rfl : g = g2 := (by injection q with q; injection q); exact q2))) | ((with_reducible refine gate_store (t := 66) (p := 8) rfl ?_); go_loud (refine wpList_store_row rfl 66 _ _ rfl (w2.heap.size) (wA x) rfl rfl 66 _ (blk_new w2 (.cells #[.int .i64 0, .int .i64 0, .int .i64 0, .int .i64 0, .int .i64 0, .int .i64 0, .int .i64 0, .int .i64 0, .int .i64 0, .int .i64 0, .bool false, .int .i64 0, .int .i64 0, .bool false, .int .i64 0, .int .i64 0, .int .i64 0, .int .i64 0, .int .i64 0, .int .i64 0, .int .i64 0, .int .i64 0, .int .i64 0, .int .i64 0, .bool false, .int .i64 0] 66)) (wA_info x) rfl (wA_one x) ?_; have HX := Aside0.mk (show Rx B w _ b A0 c0 (some ⟨g, 0, none⟩) c nw e w2.heap.size (wA x) from ⟨(HJ.out.newrow #[.int .i64 0, .int .i64 0, .int .i64 0, .int .i64 0, .int .i64 0, .int .i64 0, .int .i64 0, .int .i64 0, .int .i64 0, .int .i64 0, .bool false, .int .i64 0, .int .i64 0, .bool false, .int .i64 0, .int .i64 0, .int .i64 0, .int .i64 0, .int .i64 0, .int .i64 0, .int .i64 0, .int .i64 0, .int .i64 0, .int .i64 0, .bool false, .int .i64 0] (wA x) 66).1, (HJ.out.newrow #[.int .i64 0, .int .i64 0, .int .i64 0, .int .i64 0, .int .i64 0, .int .i64 0, .int .i64 0, .int .i64 0, .int .i64 0, .int .i64 0, .bool false, .int .i64 0, .int .i64 0, .bool false, .int .i64 0, .int .i64 0, .int .i64 0, .int .i64 0, .int .i64 0, .int .i64 0, .int .i64 0, .int .i64 0, .int .i64 0, .int .i64 0, .bool false, .int .i64 0] (wA x) 66).2, blk_lt HJ.out.r, own_ne HJ.out.len HJ.out.kw HW0.out HWL.out⟩); clear hcb hce hlb hle hlr HJ)))
 refine gen_world' (fun W => Rx B w W b A0 c0 (some ⟨g, 0, none⟩) c nw e w2.heap.size (wA x)) (by exact HX.out) fun W3 H3 => ?_
 have HX := Aside0.mk H3
 clear H3 p0 q0
 have hcb := fun i => blk_cell HX.out.rh.b_ i
 have hce := fun i => blk_cell HX.out.rh.e_ i
 have hlb := blk_lt HX.out.rh.b_
 have hle := blk_lt HX.out.rh.e_
 have hlr := blk_lt HX.out.rh.r
 have hcx := fun i => (show World.cell? _ ⟨w2.heap.size, i, none⟩ = (#[.int .i64 x.f0.f0, .int .i64 x.f0.f1, .int .i64 x.f0.f2, .int .i64 x.f0.f3.f0, .int .i64 x.f0.f3.f1, .int .i64 x.f0.f4.f0, .int .i64 x.f0.f4.f1, .int .i64 x.f0.f5, .int .i64 x.f0.f6, .int .i64 x.f0.f7, .bool x.f0.f8, .int .i64 x.f0.f9, .int .i64 x.f1, .bool x.f2, .int .i64 x.f3.f0, .int .i64 x.f3.f1, .int .i64 x.f3.f2, .int .i64 x.f3.f3.f0, .int .i64 x.f3.f3.f1, .int .i64 x.f3.f4.f0, .int .i64 x.f3.f4.f1, .int .i64 x.f3.f5, .int .i64 x.f3.f6, .int .i64 x.f3.f7, .bool x.f3.f8, .int .i64 x.f3.f9] : Array Value)[i]? from blk_cell HX.out.x_ i)
 have hlx := blk_lt HX.out.x_
 go_wp2_with (first | ((with_reducible refine gate_store (t := 46) (p := 4) rfl ?_); go_loud (refine wpList_store_row rfl 46 _ _ rfl (w.heap.size + 1 + 1) #[.int .i64 b.m.clk, .slice A0 b.m.L.length c0, .slice (some ⟨g, 0, none⟩) nw c] rfl rfl 46 _ HX.out.rh.r (by kernel_rfl) rfl (by simp [Value.oneCell']) ?_; have HFIN := Aside0.mk (HX.out.rh.fin #[.int .i64 b.m.clk, .slice A0 b.m.L.length c0, .slice (some ⟨g, 0, none⟩) nw c] HX.out.rh.kr HX.out.rh.kw))))
 obtain ⟨hr9, hk9, hw9, hb9⟩ := HFIN.out
 unfold RhPost
 rw [HF.out]
 refine bodyPost_ret (v := .tuple #[.agg #[.int .i64 b.m.clk, .slice A0 b.m.L.length c0, .slice (some ⟨g, 0, none⟩) nw c], .int .i64 6]) ?_ rfl ⟨A0, c0, some ⟨g, 0, none⟩, c, rfl, hk9, hw9, hb9, HLEN.out⟩
 have hrow := run_loadVar_row (P := Try.prog) _ (w.heap.size + 1 + 1) 46 46 _ (0, 0) _ hr9 hu0 rfl (by kernel_rfl)
 simp [results, Try.results28, asAddr, hrow]
theorem rhear_back_new {w : World} {B : Nat} (b : Rb) (A0 : Option Addr) (c0 : Nat) (A : Option Addr) (c nw : Nat) (e : Au.Ev) (hn : b.m.L.length ≤ 90000) (nd : (b.m.L.map S127.h).Nodup) (hB : B ≤ w.heap.size) (hkr : KR w B (.slice A0 b.m.L.length c0) b.m.L) (hkw : KW w B (.slice A nw c) b.W) (hlen : b.W.length = nw) (hnw : nw ≤ 64) (hr : rightJ e = true) (hwl : e.wk < (nw : Int)) (hk : e.k = 5) (ho : (rd_T66 b.W e.wk).f0.f2 = e.op) (h4 : e.op ≤ 4) (hp : (rd_T66 b.W e.wk).f2 = true) (hq : ((rd_T66 b.W e.wk).f3.f4.f0 == e.nn && (rd_T66 b.W e.wk).f3.f4.f1 == e.ng) = false) :
  Calls Try.prog 28 #[.agg #[.int .i64 b.m.clk, .slice A0 b.m.L.length c0, .slice A nw c], .agg (evA e)] w (RhPost B w nw (rhearF b e)) := by
 have hu0 := Try.underlying46
 have hu1 := Try.underlying36
 have hu2 := Try.underlying50
 have hu3 := Try.underlying66
 have hu4 := Try.underlying43
 have hu5 := Try.underlying44
 have HF := Aside0.mk (show rhearF b e = (b, 6) by unfold rhearF; rw [if_neg (by rw [hr, hlen]; simp; omega), if_neg (show ¬ e.k = 1 by omega), if_neg (show ¬ e.k = 2 by omega), if_neg (show ¬ e.k = 3 by omega), if_neg (show ¬ e.k = 4 by omega)]; rw [if_neg (by unfold rans; simp only [Bool.and_eq_true, Bool.or_eq_true, beq_iff_eq, Bool.not_eq_true', decide_eq_false_iff_not]; simp_all)])
 have h0 := right_wk hr
 have HW0 := Aside0.mk h0
 obtain ⟨g, rfl, _, _⟩ := work_at hlen hkw h0 hwl
 obtain ⟨x, hx⟩ : ∃ x, rd_T66 b.W e.wk = x := ⟨_, rfl⟩
 have HXX := Aside0.mk hx
 have p0 : (0 ≤ e.wk) = True := eq_true h0
 have q0 : (e.wk < (nw : Int)) = True := eq_true hwl
 have d0 : decide (e.wk ≥ (nw : Int)) = false := decide_eq_false (by omega)
 have HWL := Aside0.mk hwl
 have qk1 : (e.k == 1) = false := beq_eq_false_iff_ne.2 (by omega)
 have qk2 : (e.k == 2) = false := beq_eq_false_iff_ne.2 (by omega)
 have qk3 : (e.k == 3) = false := beq_eq_false_iff_ne.2 (by omega)
 have qk4 : (e.k == 4) = false := beq_eq_false_iff_ne.2 (by omega)
 rw [hx] at ho hp hq
 have o0 : (x.f0.f2 == e.op) = true := beq_iff_eq.2 (ho)
 have l4 : decide (e.op ≤ 4) = true := decide_eq_true (h4)
 have zhp := hp
 have zhq := hq
 have CR := Aside0.mk (fun W => rright_run e W)
 rw [hr] at CR
 have HN := Aside0.mk hn
 have HND := Aside0.mk nd
 have HB := Aside0.mk hB
 have HNW := Aside0.mk hnw
 have HLEN := Aside0.mk hlen
 have HRT := Aside0.mk hr
 have HJ := Aside0.mk (Rh.start hkr hkw hlen e)
 clear hn nd hB hkr hkw hlen hnw hr hwl hk ho h4 hp hq
 have hcb := fun i => blk_cell HJ.out.b_ i
 have hce := fun i => blk_cell HJ.out.e_ i
 have hlb := blk_lt HJ.out.b_
 have hle := blk_lt HJ.out.e_
 have hlr := blk_lt HJ.out.r
 go_enter Try.func28, Try.ntmps28
 clear hx h0
 go_upto_region 8 with (first | (go_at_call 62; (with_reducible refine (CR.out _).mono ?_); rintro r w2 ⟨rfl, hb⟩; have HJ2 := Aside0.mk (HJ.out.step hb); clear hcb hce hlb hle hlr HJ; have HJ := HJ2; clear HJ2; have hcb := fun i => blk_cell HJ.out.b_ i; have hce := fun i => blk_cell HJ.out.e_ i; have hlb := blk_lt HJ.out.b_; have hle := blk_lt HJ.out.e_; have hlr := blk_lt HJ.out.r; clear hb) | ((with_reducible refine Go.Proofs.Ythniclbmpeklmaa.Ev.gate_load (t := 66) (p := 43) rfl ?_); go_loud (refine wpList_load_at rfl 66 _ rfl g (e.wk.toNat * 26) ?hx (wA x) _ ?hc hu3 rfl (wA_info x) ?_; (case hx => rfl); (case hc => obtain ⟨g2, q, _, q2⟩ := work_at HJ.out.len HJ.out.kw HW0.out HWL.out; rw [HXX.out] at q2; obtain rfl : g = g2 := (by injection q with q; injection q); exact q2))) | ((with_reducible refine gate_store (t := 66) (p := 8) rfl ?_); go_loud (refine wpList_store_row rfl 66 _ _ rfl (w2.heap.size) (wA x) rfl rfl 66 _ (blk_new w2 (.cells #[.int .i64 0, .int .i64 0, .int .i64 0, .int .i64 0, .int .i64 0, .int .i64 0, .int .i64 0, .int .i64 0, .int .i64 0, .int .i64 0, .bool false, .int .i64 0, .int .i64 0, .bool false, .int .i64 0, .int .i64 0, .int .i64 0, .int .i64 0, .int .i64 0, .int .i64 0, .int .i64 0, .int .i64 0, .int .i64 0, .int .i64 0, .bool false, .int .i64 0] 66)) (wA_info x) rfl (wA_one x) ?_; have HX := Aside0.mk (show Rx B w _ b A0 c0 (some ⟨g, 0, none⟩) c nw e w2.heap.size (wA x) from ⟨(HJ.out.newrow #[.int .i64 0, .int .i64 0, .int .i64 0, .int .i64 0, .int .i64 0, .int .i64 0, .int .i64 0, .int .i64 0, .int .i64 0, .int .i64 0, .bool false, .int .i64 0, .int .i64 0, .bool false, .int .i64 0, .int .i64 0, .int .i64 0, .int .i64 0, .int .i64 0, .int .i64 0, .int .i64 0, .int .i64 0, .int .i64 0, .int .i64 0, .bool false, .int .i64 0] (wA x) 66).1, (HJ.out.newrow #[.int .i64 0, .int .i64 0, .int .i64 0, .int .i64 0, .int .i64 0, .int .i64 0, .int .i64 0, .int .i64 0, .int .i64 0, .int .i64 0, .bool false, .int .i64 0, .int .i64 0, .bool false, .int .i64 0, .int .i64 0, .int .i64 0, .int .i64 0, .int .i64 0, .int .i64 0, .int .i64 0, .int .i64 0, .int .i64 0, .int .i64 0, .bool false, .int .i64 0] (wA x) 66).2, blk_lt HJ.out.r, own_ne HJ.out.len HJ.out.kw HW0.out HWL.out⟩); clear hcb hce hlb hle hlr HJ)))
 refine gen_world' (fun W => Rx B w W b A0 c0 (some ⟨g, 0, none⟩) c nw e w2.heap.size (wA x)) (by exact HX.out) fun W3 H3 => ?_
 have HX := Aside0.mk H3
 clear H3 p0 q0
 have hcb := fun i => blk_cell HX.out.rh.b_ i
 have hce := fun i => blk_cell HX.out.rh.e_ i
 have hlb := blk_lt HX.out.rh.b_
 have hle := blk_lt HX.out.rh.e_
 have hlr := blk_lt HX.out.rh.r
 have hcx := fun i => (show World.cell? _ ⟨w2.heap.size, i, none⟩ = (#[.int .i64 x.f0.f0, .int .i64 x.f0.f1, .int .i64 x.f0.f2, .int .i64 x.f0.f3.f0, .int .i64 x.f0.f3.f1, .int .i64 x.f0.f4.f0, .int .i64 x.f0.f4.f1, .int .i64 x.f0.f5, .int .i64 x.f0.f6, .int .i64 x.f0.f7, .bool x.f0.f8, .int .i64 x.f0.f9, .int .i64 x.f1, .bool x.f2, .int .i64 x.f3.f0, .int .i64 x.f3.f1, .int .i64 x.f3.f2, .int .i64 x.f3.f3.f0, .int .i64 x.f3.f3.f1, .int .i64 x.f3.f4.f0, .int .i64 x.f3.f4.f1, .int .i64 x.f3.f5, .int .i64 x.f3.f6, .int .i64 x.f3.f7, .bool x.f3.f8, .int .i64 x.f3.f9] : Array Value)[i]? from blk_cell HX.out.x_ i)
 have hlx := blk_lt HX.out.x_
 go_wp2_with (first | ((with_reducible refine gate_store (t := 46) (p := 4) rfl ?_); go_loud (refine wpList_store_row rfl 46 _ _ rfl (w.heap.size + 1 + 1) #[.int .i64 b.m.clk, .slice A0 b.m.L.length c0, .slice (some ⟨g, 0, none⟩) nw c] rfl rfl 46 _ HX.out.rh.r (by kernel_rfl) rfl (by simp [Value.oneCell']) ?_; have HFIN := Aside0.mk (HX.out.rh.fin #[.int .i64 b.m.clk, .slice A0 b.m.L.length c0, .slice (some ⟨g, 0, none⟩) nw c] HX.out.rh.kr HX.out.rh.kw))))
 obtain ⟨hr9, hk9, hw9, hb9⟩ := HFIN.out
 unfold RhPost
 rw [HF.out]
 refine bodyPost_ret (v := .tuple #[.agg #[.int .i64 b.m.clk, .slice A0 b.m.L.length c0, .slice (some ⟨g, 0, none⟩) nw c], .int .i64 6]) ?_ rfl ⟨A0, c0, some ⟨g, 0, none⟩, c, rfl, hk9, hw9, hb9, HLEN.out⟩
 have hrow := run_loadVar_row (P := Try.prog) _ (w.heap.size + 1 + 1) 46 46 _ (0, 0) _ hr9 hu0 rfl (by kernel_rfl)
 simp [results, Try.results28, asAddr, hrow]
theorem rhear_back_yes {w : World} {B : Nat} (b : Rb) (A0 : Option Addr) (c0 : Nat) (A : Option Addr) (c nw : Nat) (e : Au.Ev) (hn : b.m.L.length ≤ 90000) (nd : (b.m.L.map S127.h).Nodup) (hB : B ≤ w.heap.size) (hkr : KR w B (.slice A0 b.m.L.length c0) b.m.L) (hkw : KW w B (.slice A nw c) b.W) (hlen : b.W.length = nw) (hnw : nw ≤ 64) (hr : rightJ e = true) (hwl : e.wk < (nw : Int)) (hk : e.k = 5) (ho : (rd_T66 b.W e.wk).f0.f2 = e.op) (h4 : e.op ≤ 4) (hp : (rd_T66 b.W e.wk).f2 = true) (hq : ((rd_T66 b.W e.wk).f3.f4.f0 == e.nn && (rd_T66 b.W e.wk).f3.f4.f1 == e.ng) = true) (hy : ((rd_T66 b.W e.wk).f3.f8 == e.y) = false) :
  Calls Try.prog 28 #[.agg #[.int .i64 b.m.clk, .slice A0 b.m.L.length c0, .slice A nw c], .agg (evA e)] w (RhPost B w nw (rhearF b e)) := by
 have hu0 := Try.underlying46
 have hu1 := Try.underlying36
 have hu2 := Try.underlying50
 have hu3 := Try.underlying66
 have hu4 := Try.underlying43
 have hu5 := Try.underlying44
 have HF := Aside0.mk (show rhearF b e = (b, 6) by unfold rhearF; rw [if_neg (by rw [hr, hlen]; simp; omega), if_neg (show ¬ e.k = 1 by omega), if_neg (show ¬ e.k = 2 by omega), if_neg (show ¬ e.k = 3 by omega), if_neg (show ¬ e.k = 4 by omega)]; rw [if_neg (by unfold rans; simp only [Bool.and_eq_true, Bool.or_eq_true, beq_iff_eq, Bool.not_eq_true', decide_eq_false_iff_not]; simp_all)])
 have h0 := right_wk hr
 have HW0 := Aside0.mk h0
 obtain ⟨g, rfl, _, _⟩ := work_at hlen hkw h0 hwl
 obtain ⟨x, hx⟩ : ∃ x, rd_T66 b.W e.wk = x := ⟨_, rfl⟩
 have HXX := Aside0.mk hx
 have p0 : (0 ≤ e.wk) = True := eq_true h0
 have q0 : (e.wk < (nw : Int)) = True := eq_true hwl
 have d0 : decide (e.wk ≥ (nw : Int)) = false := decide_eq_false (by omega)
 have HWL := Aside0.mk hwl
 have qk1 : (e.k == 1) = false := beq_eq_false_iff_ne.2 (by omega)
 have qk2 : (e.k == 2) = false := beq_eq_false_iff_ne.2 (by omega)
 have qk3 : (e.k == 3) = false := beq_eq_false_iff_ne.2 (by omega)
 have qk4 : (e.k == 4) = false := beq_eq_false_iff_ne.2 (by omega)
 rw [hx] at ho hp hq hy
 have o0 : (x.f0.f2 == e.op) = true := beq_iff_eq.2 (ho)
 have l4 : decide (e.op ≤ 4) = true := decide_eq_true (h4)
 have zhp := hp
 have zhq := hq
 have zhy := hy
 have CR := Aside0.mk (fun W => rright_run e W)
 rw [hr] at CR
 have HN := Aside0.mk hn
 have HND := Aside0.mk nd
 have HB := Aside0.mk hB
 have HNW := Aside0.mk hnw
 have HLEN := Aside0.mk hlen
 have HRT := Aside0.mk hr
 have HJ := Aside0.mk (Rh.start hkr hkw hlen e)
 clear hn nd hB hkr hkw hlen hnw hr hwl hk ho h4 hp hq hy
 have hcb := fun i => blk_cell HJ.out.b_ i
 have hce := fun i => blk_cell HJ.out.e_ i
 have hlb := blk_lt HJ.out.b_
 have hle := blk_lt HJ.out.e_
 have hlr := blk_lt HJ.out.r
 go_enter Try.func28, Try.ntmps28
 clear hx h0
 go_upto_region 8 with (first | (go_at_call 62; (with_reducible refine (CR.out _).mono ?_); rintro r w2 ⟨rfl, hb⟩; have HJ2 := Aside0.mk (HJ.out.step hb); clear hcb hce hlb hle hlr HJ; have HJ := HJ2; clear HJ2; have hcb := fun i => blk_cell HJ.out.b_ i; have hce := fun i => blk_cell HJ.out.e_ i; have hlb := blk_lt HJ.out.b_; have hle := blk_lt HJ.out.e_; have hlr := blk_lt HJ.out.r; clear hb) | ((with_reducible refine Go.Proofs.Ythniclbmpeklmaa.Ev.gate_load (t := 66) (p := 43) rfl ?_); go_loud (refine wpList_load_at rfl 66 _ rfl g (e.wk.toNat * 26) ?hx (wA x) _ ?hc hu3 rfl (wA_info x) ?_; (case hx => rfl); (case hc => obtain ⟨g2, q, _, q2⟩ := work_at HJ.out.len HJ.out.kw HW0.out HWL.out; rw [HXX.out] at q2; obtain rfl : g = g2 := (by injection q with q; injection q); exact q2))) | ((with_reducible refine gate_store (t := 66) (p := 8) rfl ?_); go_loud (refine wpList_store_row rfl 66 _ _ rfl (w2.heap.size) (wA x) rfl rfl 66 _ (blk_new w2 (.cells #[.int .i64 0, .int .i64 0, .int .i64 0, .int .i64 0, .int .i64 0, .int .i64 0, .int .i64 0, .int .i64 0, .int .i64 0, .int .i64 0, .bool false, .int .i64 0, .int .i64 0, .bool false, .int .i64 0, .int .i64 0, .int .i64 0, .int .i64 0, .int .i64 0, .int .i64 0, .int .i64 0, .int .i64 0, .int .i64 0, .int .i64 0, .bool false, .int .i64 0] 66)) (wA_info x) rfl (wA_one x) ?_; have HX := Aside0.mk (show Rx B w _ b A0 c0 (some ⟨g, 0, none⟩) c nw e w2.heap.size (wA x) from ⟨(HJ.out.newrow #[.int .i64 0, .int .i64 0, .int .i64 0, .int .i64 0, .int .i64 0, .int .i64 0, .int .i64 0, .int .i64 0, .int .i64 0, .int .i64 0, .bool false, .int .i64 0, .int .i64 0, .bool false, .int .i64 0, .int .i64 0, .int .i64 0, .int .i64 0, .int .i64 0, .int .i64 0, .int .i64 0, .int .i64 0, .int .i64 0, .int .i64 0, .bool false, .int .i64 0] (wA x) 66).1, (HJ.out.newrow #[.int .i64 0, .int .i64 0, .int .i64 0, .int .i64 0, .int .i64 0, .int .i64 0, .int .i64 0, .int .i64 0, .int .i64 0, .int .i64 0, .bool false, .int .i64 0, .int .i64 0, .bool false, .int .i64 0, .int .i64 0, .int .i64 0, .int .i64 0, .int .i64 0, .int .i64 0, .int .i64 0, .int .i64 0, .int .i64 0, .int .i64 0, .bool false, .int .i64 0] (wA x) 66).2, blk_lt HJ.out.r, own_ne HJ.out.len HJ.out.kw HW0.out HWL.out⟩); clear hcb hce hlb hle hlr HJ)))
 refine gen_world' (fun W => Rx B w W b A0 c0 (some ⟨g, 0, none⟩) c nw e w2.heap.size (wA x)) (by exact HX.out) fun W3 H3 => ?_
 have HX := Aside0.mk H3
 clear H3 p0 q0
 have hcb := fun i => blk_cell HX.out.rh.b_ i
 have hce := fun i => blk_cell HX.out.rh.e_ i
 have hlb := blk_lt HX.out.rh.b_
 have hle := blk_lt HX.out.rh.e_
 have hlr := blk_lt HX.out.rh.r
 have hcx := fun i => (show World.cell? _ ⟨w2.heap.size, i, none⟩ = (#[.int .i64 x.f0.f0, .int .i64 x.f0.f1, .int .i64 x.f0.f2, .int .i64 x.f0.f3.f0, .int .i64 x.f0.f3.f1, .int .i64 x.f0.f4.f0, .int .i64 x.f0.f4.f1, .int .i64 x.f0.f5, .int .i64 x.f0.f6, .int .i64 x.f0.f7, .bool x.f0.f8, .int .i64 x.f0.f9, .int .i64 x.f1, .bool x.f2, .int .i64 x.f3.f0, .int .i64 x.f3.f1, .int .i64 x.f3.f2, .int .i64 x.f3.f3.f0, .int .i64 x.f3.f3.f1, .int .i64 x.f3.f4.f0, .int .i64 x.f3.f4.f1, .int .i64 x.f3.f5, .int .i64 x.f3.f6, .int .i64 x.f3.f7, .bool x.f3.f8, .int .i64 x.f3.f9] : Array Value)[i]? from blk_cell HX.out.x_ i)
 have hlx := blk_lt HX.out.x_
 go_wp2_with (first | ((with_reducible refine gate_store (t := 46) (p := 4) rfl ?_); go_loud (refine wpList_store_row rfl 46 _ _ rfl (w.heap.size + 1 + 1) #[.int .i64 b.m.clk, .slice A0 b.m.L.length c0, .slice (some ⟨g, 0, none⟩) nw c] rfl rfl 46 _ HX.out.rh.r (by kernel_rfl) rfl (by simp [Value.oneCell']) ?_; have HFIN := Aside0.mk (HX.out.rh.fin #[.int .i64 b.m.clk, .slice A0 b.m.L.length c0, .slice (some ⟨g, 0, none⟩) nw c] HX.out.rh.kr HX.out.rh.kw))))
 obtain ⟨hr9, hk9, hw9, hb9⟩ := HFIN.out
 unfold RhPost
 rw [HF.out]
 refine bodyPost_ret (v := .tuple #[.agg #[.int .i64 b.m.clk, .slice A0 b.m.L.length c0, .slice (some ⟨g, 0, none⟩) nw c], .int .i64 6]) ?_ rfl ⟨A0, c0, some ⟨g, 0, none⟩, c, rfl, hk9, hw9, hb9, HLEN.out⟩
 have hrow := run_loadVar_row (P := Try.prog) _ (w.heap.size + 1 + 1) 46 46 _ (0, 0) _ hr9 hu0 rfl (by kernel_rfl)
 simp [results, Try.results28, asAddr, hrow]
theorem rhear_back_err {w : World} {B : Nat} (b : Rb) (A0 : Option Addr) (c0 : Nat) (A : Option Addr) (c nw : Nat) (e : Au.Ev) (hn : b.m.L.length ≤ 90000) (nd : (b.m.L.map S127.h).Nodup) (hB : B ≤ w.heap.size) (hkr : KR w B (.slice A0 b.m.L.length c0) b.m.L) (hkw : KW w B (.slice A nw c) b.W) (hlen : b.W.length = nw) (hnw : nw ≤ 64) (hr : rightJ e = true) (hwl : e.wk < (nw : Int)) (hk : e.k = 5) (ho : (rd_T66 b.W e.wk).f0.f2 = e.op) (h4 : e.op ≤ 4) (hp : (rd_T66 b.W e.wk).f2 = true) (hq : ((rd_T66 b.W e.wk).f3.f4.f0 == e.nn && (rd_T66 b.W e.wk).f3.f4.f1 == e.ng) = true) (hy : ((rd_T66 b.W e.wk).f3.f8 == e.y) = true) (hz : ((rd_T66 b.W e.wk).f3.f9 == e.er) = false) :
  Calls Try.prog 28 #[.agg #[.int .i64 b.m.clk, .slice A0 b.m.L.length c0, .slice A nw c], .agg (evA e)] w (RhPost B w nw (rhearF b e)) := by
 have hu0 := Try.underlying46
 have hu1 := Try.underlying36
 have hu2 := Try.underlying50
 have hu3 := Try.underlying66
 have hu4 := Try.underlying43
 have hu5 := Try.underlying44
 have HF := Aside0.mk (show rhearF b e = (b, 6) by unfold rhearF; rw [if_neg (by rw [hr, hlen]; simp; omega), if_neg (show ¬ e.k = 1 by omega), if_neg (show ¬ e.k = 2 by omega), if_neg (show ¬ e.k = 3 by omega), if_neg (show ¬ e.k = 4 by omega)]; rw [if_neg (by unfold rans; simp only [Bool.and_eq_true, Bool.or_eq_true, beq_iff_eq, Bool.not_eq_true', decide_eq_false_iff_not]; simp_all)])
 have h0 := right_wk hr
 have HW0 := Aside0.mk h0
 obtain ⟨g, rfl, _, _⟩ := work_at hlen hkw h0 hwl
 obtain ⟨x, hx⟩ : ∃ x, rd_T66 b.W e.wk = x := ⟨_, rfl⟩
 have HXX := Aside0.mk hx
 have p0 : (0 ≤ e.wk) = True := eq_true h0
 have q0 : (e.wk < (nw : Int)) = True := eq_true hwl
 have d0 : decide (e.wk ≥ (nw : Int)) = false := decide_eq_false (by omega)
 have HWL := Aside0.mk hwl
 have qk1 : (e.k == 1) = false := beq_eq_false_iff_ne.2 (by omega)
 have qk2 : (e.k == 2) = false := beq_eq_false_iff_ne.2 (by omega)
 have qk3 : (e.k == 3) = false := beq_eq_false_iff_ne.2 (by omega)
 have qk4 : (e.k == 4) = false := beq_eq_false_iff_ne.2 (by omega)
 rw [hx] at ho hp hq hy hz
 have o0 : (x.f0.f2 == e.op) = true := beq_iff_eq.2 (ho)
 have l4 : decide (e.op ≤ 4) = true := decide_eq_true (h4)
 have zhp := hp
 have zhq := hq
 have zhy := hy
 have zhz := hz
 have CR := Aside0.mk (fun W => rright_run e W)
 rw [hr] at CR
 have HN := Aside0.mk hn
 have HND := Aside0.mk nd
 have HB := Aside0.mk hB
 have HNW := Aside0.mk hnw
 have HLEN := Aside0.mk hlen
 have HRT := Aside0.mk hr
 have HJ := Aside0.mk (Rh.start hkr hkw hlen e)
 clear hn nd hB hkr hkw hlen hnw hr hwl hk ho h4 hp hq hy hz
 have hcb := fun i => blk_cell HJ.out.b_ i
 have hce := fun i => blk_cell HJ.out.e_ i
 have hlb := blk_lt HJ.out.b_
 have hle := blk_lt HJ.out.e_
 have hlr := blk_lt HJ.out.r
 go_enter Try.func28, Try.ntmps28
 clear hx h0
 go_upto_region 8 with (first | (go_at_call 62; (with_reducible refine (CR.out _).mono ?_); rintro r w2 ⟨rfl, hb⟩; have HJ2 := Aside0.mk (HJ.out.step hb); clear hcb hce hlb hle hlr HJ; have HJ := HJ2; clear HJ2; have hcb := fun i => blk_cell HJ.out.b_ i; have hce := fun i => blk_cell HJ.out.e_ i; have hlb := blk_lt HJ.out.b_; have hle := blk_lt HJ.out.e_; have hlr := blk_lt HJ.out.r; clear hb) | ((with_reducible refine Go.Proofs.Ythniclbmpeklmaa.Ev.gate_load (t := 66) (p := 43) rfl ?_); go_loud (refine wpList_load_at rfl 66 _ rfl g (e.wk.toNat * 26) ?hx (wA x) _ ?hc hu3 rfl (wA_info x) ?_; (case hx => rfl); (case hc => obtain ⟨g2, q, _, q2⟩ := work_at HJ.out.len HJ.out.kw HW0.out HWL.out; rw [HXX.out] at q2; obtain rfl : g = g2 := (by injection q with q; injection q); exact q2))) | ((with_reducible refine gate_store (t := 66) (p := 8) rfl ?_); go_loud (refine wpList_store_row rfl 66 _ _ rfl (w2.heap.size) (wA x) rfl rfl 66 _ (blk_new w2 (.cells #[.int .i64 0, .int .i64 0, .int .i64 0, .int .i64 0, .int .i64 0, .int .i64 0, .int .i64 0, .int .i64 0, .int .i64 0, .int .i64 0, .bool false, .int .i64 0, .int .i64 0, .bool false, .int .i64 0, .int .i64 0, .int .i64 0, .int .i64 0, .int .i64 0, .int .i64 0, .int .i64 0, .int .i64 0, .int .i64 0, .int .i64 0, .bool false, .int .i64 0] 66)) (wA_info x) rfl (wA_one x) ?_; have HX := Aside0.mk (show Rx B w _ b A0 c0 (some ⟨g, 0, none⟩) c nw e w2.heap.size (wA x) from ⟨(HJ.out.newrow #[.int .i64 0, .int .i64 0, .int .i64 0, .int .i64 0, .int .i64 0, .int .i64 0, .int .i64 0, .int .i64 0, .int .i64 0, .int .i64 0, .bool false, .int .i64 0, .int .i64 0, .bool false, .int .i64 0, .int .i64 0, .int .i64 0, .int .i64 0, .int .i64 0, .int .i64 0, .int .i64 0, .int .i64 0, .int .i64 0, .int .i64 0, .bool false, .int .i64 0] (wA x) 66).1, (HJ.out.newrow #[.int .i64 0, .int .i64 0, .int .i64 0, .int .i64 0, .int .i64 0, .int .i64 0, .int .i64 0, .int .i64 0, .int .i64 0, .int .i64 0, .bool false, .int .i64 0, .int .i64 0, .bool false, .int .i64 0, .int .i64 0, .int .i64 0, .int .i64 0, .int .i64 0, .int .i64 0, .int .i64 0, .int .i64 0, .int .i64 0, .int .i64 0, .bool false, .int .i64 0] (wA x) 66).2, blk_lt HJ.out.r, own_ne HJ.out.len HJ.out.kw HW0.out HWL.out⟩); clear hcb hce hlb hle hlr HJ)))
 refine gen_world' (fun W => Rx B w W b A0 c0 (some ⟨g, 0, none⟩) c nw e w2.heap.size (wA x)) (by exact HX.out) fun W3 H3 => ?_
 have HX := Aside0.mk H3
 clear H3 p0 q0
 have hcb := fun i => blk_cell HX.out.rh.b_ i
 have hce := fun i => blk_cell HX.out.rh.e_ i
 have hlb := blk_lt HX.out.rh.b_
 have hle := blk_lt HX.out.rh.e_
 have hlr := blk_lt HX.out.rh.r
 have hcx := fun i => (show World.cell? _ ⟨w2.heap.size, i, none⟩ = (#[.int .i64 x.f0.f0, .int .i64 x.f0.f1, .int .i64 x.f0.f2, .int .i64 x.f0.f3.f0, .int .i64 x.f0.f3.f1, .int .i64 x.f0.f4.f0, .int .i64 x.f0.f4.f1, .int .i64 x.f0.f5, .int .i64 x.f0.f6, .int .i64 x.f0.f7, .bool x.f0.f8, .int .i64 x.f0.f9, .int .i64 x.f1, .bool x.f2, .int .i64 x.f3.f0, .int .i64 x.f3.f1, .int .i64 x.f3.f2, .int .i64 x.f3.f3.f0, .int .i64 x.f3.f3.f1, .int .i64 x.f3.f4.f0, .int .i64 x.f3.f4.f1, .int .i64 x.f3.f5, .int .i64 x.f3.f6, .int .i64 x.f3.f7, .bool x.f3.f8, .int .i64 x.f3.f9] : Array Value)[i]? from blk_cell HX.out.x_ i)
 have hlx := blk_lt HX.out.x_
 go_wp2_with (first | ((with_reducible refine gate_store (t := 46) (p := 4) rfl ?_); go_loud (refine wpList_store_row rfl 46 _ _ rfl (w.heap.size + 1 + 1) #[.int .i64 b.m.clk, .slice A0 b.m.L.length c0, .slice (some ⟨g, 0, none⟩) nw c] rfl rfl 46 _ HX.out.rh.r (by kernel_rfl) rfl (by simp [Value.oneCell']) ?_; have HFIN := Aside0.mk (HX.out.rh.fin #[.int .i64 b.m.clk, .slice A0 b.m.L.length c0, .slice (some ⟨g, 0, none⟩) nw c] HX.out.rh.kr HX.out.rh.kw))))
 obtain ⟨hr9, hk9, hw9, hb9⟩ := HFIN.out
 unfold RhPost
 rw [HF.out]
 refine bodyPost_ret (v := .tuple #[.agg #[.int .i64 b.m.clk, .slice A0 b.m.L.length c0, .slice (some ⟨g, 0, none⟩) nw c], .int .i64 6]) ?_ rfl ⟨A0, c0, some ⟨g, 0, none⟩, c, rfl, hk9, hw9, hb9, HLEN.out⟩
 have hrow := run_loadVar_row (P := Try.prog) _ (w.heap.size + 1 + 1) 46 46 _ (0, 0) _ hr9 hu0 rfl (by kernel_rfl)
 simp [results, Try.results28, asAddr, hrow]
theorem rhear_invoke {w : World} {B : Nat} (b : Rb) (A0 : Option Addr) (c0 : Nat) (A : Option Addr) (c nw : Nat) (e : Au.Ev) (hn : b.m.L.length ≤ 90000) (nd : (b.m.L.map S127.h).Nodup) (hB : B ≤ w.heap.size) (hkr : KR w B (.slice A0 b.m.L.length c0) b.m.L) (hkw : KW w B (.slice A nw c) b.W) (hlen : b.W.length = nw) (hnw : nw ≤ 64) (hr : rightJ e = true) (hwl : e.wk < (nw : Int)) (hk : e.k = 2) (hi : (rd_T66 b.W e.wk).f0.f2 = 0) :
  Calls Try.prog 28 #[.agg #[.int .i64 b.m.clk, .slice A0 b.m.L.length c0, .slice A nw c], .agg (evA e)] w (RhPost B w nw (rhearF b e)) := by
 have hu0 := Try.underlying46
 have hu1 := Try.underlying36
 have hu2 := Try.underlying50
 have hu3 := Try.underlying66
 have hu4 := Try.underlying43
 have hu5 := Try.underlying44
 have HF := Aside0.mk (show rhearF b e = (⟨b.m, b.W.set e.wk.toNat ⟨ofE e, b.m.clk, false, z50⟩⟩, 0) by unfold rhearF; rw [if_neg (by rw [hr, hlen]; simp; omega), if_neg (show ¬ e.k = 1 by omega), if_pos hk]; rw [if_pos hi])
 have h0 := right_wk hr
 have HW0 := Aside0.mk h0
 obtain ⟨g, rfl, _, _⟩ := work_at hlen hkw h0 hwl
 obtain ⟨x, hx⟩ : ∃ x, rd_T66 b.W e.wk = x := ⟨_, rfl⟩
 have HXX := Aside0.mk hx
 have p0 : (0 ≤ e.wk) = True := eq_true h0
 have q0 : (e.wk < (nw : Int)) = True := eq_true hwl
 have d0 : decide (e.wk ≥ (nw : Int)) = false := decide_eq_false (by omega)
 have HWL := Aside0.mk hwl
 have qk1 : (e.k == 1) = false := beq_eq_false_iff_ne.2 (by omega)
 have qk2 : (e.k == 2) = true := beq_iff_eq.2 hk
 have qk3 : (e.k == 3) = false := beq_eq_false_iff_ne.2 (by omega)
 have qk4 : (e.k == 4) = false := beq_eq_false_iff_ne.2 (by omega)
 rw [hx] at hi
 have i0 : (x.f0.f2 == 0) = true := beq_iff_eq.2 (hi)
 have CW : Aside0 (∀ W, Rh B w W b A0 c0 (some ⟨g, 0, none⟩) c nw e → Calls Try.prog 63 #[.agg #[.int .i64 b.m.clk, .slice A0 b.m.L.length c0, .slice (some ⟨g, 0, none⟩) nw c], .int .i64 e.wk, .agg #[.int .i64 e.k, .int .i64 e.wk, .int .i64 e.op, .int .i64 e.hn, .int .i64 e.hg, .int .i64 e.nn, .int .i64 e.ng, .int .i64 e.t, .int .i64 e.a, .int .i64 e.u, .bool e.y, .int .i64 e.er, .int .i64 b.m.clk, .bool false, .int .i64 0, .int .i64 0, .int .i64 0, .int .i64 0, .int .i64 0, .int .i64 0, .int .i64 0, .int .i64 0, .int .i64 0, .int .i64 0, .bool false, .int .i64 0]] W fun r w' => ∃ A2 c2, r = .returned (.agg #[.int .i64 b.m.clk, .slice A0 b.m.L.length c0, .slice A2 nw c2]) ∧ KW w' B (.slice A2 nw c2) (b.W.set e.wk.toNat ⟨ofE e, b.m.clk, false, z50⟩) ∧ Below W.heap.size W w') := ⟨fun W hW => with_lit b.m.clk A0 _ c0 (some ⟨g, 0, none⟩) c nw b.W hlen e.wk h0 hwl hnw ⟨ofE e, b.m.clk, false, z50⟩ hW.kw (Nat.le_trans hB hW.below.size)⟩
 have CR := Aside0.mk (fun W => rright_run e W)
 rw [hr] at CR
 have HN := Aside0.mk hn
 have HND := Aside0.mk nd
 have HB := Aside0.mk hB
 have HNW := Aside0.mk hnw
 have HLEN := Aside0.mk hlen
 have HRT := Aside0.mk hr
 have HJ := Aside0.mk (Rh.start hkr hkw hlen e)
 clear hn nd hB hkr hkw hlen hnw hr hwl hk hi
 have hcb := fun i => blk_cell HJ.out.b_ i
 have hce := fun i => blk_cell HJ.out.e_ i
 have hlb := blk_lt HJ.out.b_
 have hle := blk_lt HJ.out.e_
 have hlr := blk_lt HJ.out.r
 go_enter Try.func28, Try.ntmps28
 clear hx h0
 go_upto_region 8 with (first | (go_at_call 62; (with_reducible refine (CR.out _).mono ?_); rintro r w2 ⟨rfl, hb⟩; have HJ2 := Aside0.mk (HJ.out.step hb); clear hcb hce hlb hle hlr HJ; have HJ := HJ2; clear HJ2; have hcb := fun i => blk_cell HJ.out.b_ i; have hce := fun i => blk_cell HJ.out.e_ i; have hlb := blk_lt HJ.out.b_; have hle := blk_lt HJ.out.e_; have hlr := blk_lt HJ.out.r; clear hb) | ((with_reducible refine Go.Proofs.Ythniclbmpeklmaa.Ev.gate_load (t := 66) (p := 43) rfl ?_); go_loud (refine wpList_load_at rfl 66 _ rfl g (e.wk.toNat * 26) ?hx (wA x) _ ?hc hu3 rfl (wA_info x) ?_; (case hx => rfl); (case hc => obtain ⟨g2, q, _, q2⟩ := work_at HJ.out.len HJ.out.kw HW0.out HWL.out; rw [HXX.out] at q2; obtain rfl : g = g2 := (by injection q with q; injection q); exact q2))) | ((with_reducible refine gate_store (t := 66) (p := 8) rfl ?_); go_loud (refine wpList_store_row rfl 66 _ _ rfl (w2.heap.size) (wA x) rfl rfl 66 _ (blk_new w2 (.cells #[.int .i64 0, .int .i64 0, .int .i64 0, .int .i64 0, .int .i64 0, .int .i64 0, .int .i64 0, .int .i64 0, .int .i64 0, .int .i64 0, .bool false, .int .i64 0, .int .i64 0, .bool false, .int .i64 0, .int .i64 0, .int .i64 0, .int .i64 0, .int .i64 0, .int .i64 0, .int .i64 0, .int .i64 0, .int .i64 0, .int .i64 0, .bool false, .int .i64 0] 66)) (wA_info x) rfl (wA_one x) ?_; have HX := Aside0.mk (show Rx B w _ b A0 c0 (some ⟨g, 0, none⟩) c nw e w2.heap.size (wA x) from ⟨(HJ.out.newrow #[.int .i64 0, .int .i64 0, .int .i64 0, .int .i64 0, .int .i64 0, .int .i64 0, .int .i64 0, .int .i64 0, .int .i64 0, .int .i64 0, .bool false, .int .i64 0, .int .i64 0, .bool false, .int .i64 0, .int .i64 0, .int .i64 0, .int .i64 0, .int .i64 0, .int .i64 0, .int .i64 0, .int .i64 0, .int .i64 0, .int .i64 0, .bool false, .int .i64 0] (wA x) 66).1, (HJ.out.newrow #[.int .i64 0, .int .i64 0, .int .i64 0, .int .i64 0, .int .i64 0, .int .i64 0, .int .i64 0, .int .i64 0, .int .i64 0, .int .i64 0, .bool false, .int .i64 0, .int .i64 0, .bool false, .int .i64 0, .int .i64 0, .int .i64 0, .int .i64 0, .int .i64 0, .int .i64 0, .int .i64 0, .int .i64 0, .int .i64 0, .int .i64 0, .bool false, .int .i64 0] (wA x) 66).2, blk_lt HJ.out.r, own_ne HJ.out.len HJ.out.kw HW0.out HWL.out⟩); clear hcb hce hlb hle hlr HJ)))
 refine gen_world' (fun W => Rx B w W b A0 c0 (some ⟨g, 0, none⟩) c nw e w2.heap.size (wA x)) (by exact HX.out) fun W3 H3 => ?_
 have HX := Aside0.mk H3
 clear H3 p0 q0
 have hcb := fun i => blk_cell HX.out.rh.b_ i
 have hce := fun i => blk_cell HX.out.rh.e_ i
 have hlb := blk_lt HX.out.rh.b_
 have hle := blk_lt HX.out.rh.e_
 have hlr := blk_lt HX.out.rh.r
 have hcx := fun i => (show World.cell? _ ⟨w2.heap.size, i, none⟩ = (#[.int .i64 x.f0.f0, .int .i64 x.f0.f1, .int .i64 x.f0.f2, .int .i64 x.f0.f3.f0, .int .i64 x.f0.f3.f1, .int .i64 x.f0.f4.f0, .int .i64 x.f0.f4.f1, .int .i64 x.f0.f5, .int .i64 x.f0.f6, .int .i64 x.f0.f7, .bool x.f0.f8, .int .i64 x.f0.f9, .int .i64 x.f1, .bool x.f2, .int .i64 x.f3.f0, .int .i64 x.f3.f1, .int .i64 x.f3.f2, .int .i64 x.f3.f3.f0, .int .i64 x.f3.f3.f1, .int .i64 x.f3.f4.f0, .int .i64 x.f3.f4.f1, .int .i64 x.f3.f5, .int .i64 x.f3.f6, .int .i64 x.f3.f7, .bool x.f3.f8, .int .i64 x.f3.f9] : Array Value)[i]? from blk_cell HX.out.x_ i)
 have hlx := blk_lt HX.out.x_
 go_wp2_with (first | (go_at_call 63; go_loud ((with_reducible refine (CW.out _ HX.out.rh).mono ?_); rintro r w4 ⟨A2, c2, rfl, hk2, hb⟩; have HX2 := Aside0.mk (HX.out.step hb); clear hcb hce hlb hle hlr hcx hlx HX; have HX := HX2; clear HX2; have hcb := fun i => blk_cell HX.out.rh.b_ i; have hce := fun i => blk_cell HX.out.rh.e_ i; have hlb := blk_lt HX.out.rh.b_; have hle := blk_lt HX.out.rh.e_; have hlr := blk_lt HX.out.rh.r; have hcx := fun i => (show World.cell? _ ⟨w2.heap.size, i, none⟩ = (#[.int .i64 x.f0.f0, .int .i64 x.f0.f1, .int .i64 x.f0.f2, .int .i64 x.f0.f3.f0, .int .i64 x.f0.f3.f1, .int .i64 x.f0.f4.f0, .int .i64 x.f0.f4.f1, .int .i64 x.f0.f5, .int .i64 x.f0.f6, .int .i64 x.f0.f7, .bool x.f0.f8, .int .i64 x.f0.f9, .int .i64 x.f1, .bool x.f2, .int .i64 x.f3.f0, .int .i64 x.f3.f1, .int .i64 x.f3.f2, .int .i64 x.f3.f3.f0, .int .i64 x.f3.f3.f1, .int .i64 x.f3.f4.f0, .int .i64 x.f3.f4.f1, .int .i64 x.f3.f5, .int .i64 x.f3.f6, .int .i64 x.f3.f7, .bool x.f3.f8, .int .i64 x.f3.f9] : Array Value)[i]? from blk_cell HX.out.x_ i); have hlx := blk_lt HX.out.x_; have HK2 := Aside0.mk hk2; clear hb hk2)) | ((with_reducible refine gate_store (t := 46) (p := 4) rfl ?_); go_loud (refine wpList_store_row rfl 46 _ _ rfl (w.heap.size + 1 + 1) #[.int .i64 b.m.clk, .slice A0 b.m.L.length c0, .slice A2 nw c2] rfl rfl 46 _ HX.out.rh.r (by kernel_rfl) rfl (by simp [Value.oneCell']) ?_; have HFIN := Aside0.mk (HX.out.rh.fin #[.int .i64 b.m.clk, .slice A0 b.m.L.length c0, .slice A2 nw c2] HX.out.rh.kr HK2.out))))
 obtain ⟨hr9, hk9, hw9, hb9⟩ := HFIN.out
 unfold RhPost
 rw [HF.out]
 refine bodyPost_ret (v := .tuple #[.agg #[.int .i64 b.m.clk, .slice A0 b.m.L.length c0, .slice A2 nw c2], .int .i64 0]) ?_ rfl ⟨A0, c0, A2, c2, rfl, hk9, hw9, hb9, (by rw [List.length_set]; exact HLEN.out)⟩
 have hrow := run_loadVar_row (P := Try.prog) _ (w.heap.size + 1 + 1) 46 46 _ (0, 0) _ hr9 hu0 rfl (by kernel_rfl)
 simp [results, Try.results28, asAddr, hrow]
theorem rhear_back_hi {w : World} {B : Nat} (b : Rb) (A0 : Option Addr) (c0 : Nat) (A : Option Addr) (c nw : Nat) (e : Au.Ev) (hn : b.m.L.length ≤ 90000) (nd : (b.m.L.map S127.h).Nodup) (hB : B ≤ w.heap.size) (hkr : KR w B (.slice A0 b.m.L.length c0) b.m.L) (hkw : KW w B (.slice A nw c) b.W) (hlen : b.W.length = nw) (hnw : nw ≤ 64) (hr : rightJ e = true) (hwl : e.wk < (nw : Int)) (hk : e.k = 5) (ho : (rd_T66 b.W e.wk).f0.f2 = e.op) (h4 : ¬ e.op ≤ 4) :
  Calls Try.prog 28 #[.agg #[.int .i64 b.m.clk, .slice A0 b.m.L.length c0, .slice A nw c], .agg (evA e)] w (RhPost B w nw (rhearF b e)) := by
 have hu0 := Try.underlying46
 have hu1 := Try.underlying36
 have hu2 := Try.underlying50
 have hu3 := Try.underlying66
 have hu4 := Try.underlying43
 have hu5 := Try.underlying44
 have HF := Aside0.mk (show rhearF b e = (⟨b.m, b.W.set e.wk.toNat z66⟩, 0) by unfold rhearF; rw [if_neg (by rw [hr, hlen]; simp; omega), if_neg (show ¬ e.k = 1 by omega), if_neg (show ¬ e.k = 2 by omega), if_neg (show ¬ e.k = 3 by omega), if_neg (show ¬ e.k = 4 by omega)]; rw [if_pos (by unfold rans; simp only [Bool.and_eq_true, Bool.or_eq_true, beq_iff_eq, Bool.not_eq_true', decide_eq_false_iff_not]; simp_all)])
 have h0 := right_wk hr
 have HW0 := Aside0.mk h0
 obtain ⟨g, rfl, _, _⟩ := work_at hlen hkw h0 hwl
 obtain ⟨x, hx⟩ : ∃ x, rd_T66 b.W e.wk = x := ⟨_, rfl⟩
 have HXX := Aside0.mk hx
 have p0 : (0 ≤ e.wk) = True := eq_true h0
 have q0 : (e.wk < (nw : Int)) = True := eq_true hwl
 have d0 : decide (e.wk ≥ (nw : Int)) = false := decide_eq_false (by omega)
 have HWL := Aside0.mk hwl
 have qk1 : (e.k == 1) = false := beq_eq_false_iff_ne.2 (by omega)
 have qk2 : (e.k == 2) = false := beq_eq_false_iff_ne.2 (by omega)
 have qk3 : (e.k == 3) = false := beq_eq_false_iff_ne.2 (by omega)
 have qk4 : (e.k == 4) = false := beq_eq_false_iff_ne.2 (by omega)
 rw [hx] at ho
 have o0 : (x.f0.f2 == e.op) = true := beq_iff_eq.2 (ho)
 have l4 : decide (e.op ≤ 4) = false := decide_eq_false (h4)
 have CW : Aside0 (∀ W, Rh B w W b A0 c0 (some ⟨g, 0, none⟩) c nw e → Calls Try.prog 63 #[.agg #[.int .i64 b.m.clk, .slice A0 b.m.L.length c0, .slice (some ⟨g, 0, none⟩) nw c], .int .i64 e.wk, .agg #[.int .i64 0, .int .i64 0, .int .i64 0, .int .i64 0, .int .i64 0, .int .i64 0, .int .i64 0, .int .i64 0, .int .i64 0, .int .i64 0, .bool false, .int .i64 0, .int .i64 0, .bool false, .int .i64 0, .int .i64 0, .int .i64 0, .int .i64 0, .int .i64 0, .int .i64 0, .int .i64 0, .int .i64 0, .int .i64 0, .int .i64 0, .bool false, .int .i64 0]] W fun r w' => ∃ A2 c2, r = .returned (.agg #[.int .i64 b.m.clk, .slice A0 b.m.L.length c0, .slice A2 nw c2]) ∧ KW w' B (.slice A2 nw c2) (b.W.set e.wk.toNat z66) ∧ Below W.heap.size W w') := ⟨fun W hW => with_lit b.m.clk A0 _ c0 (some ⟨g, 0, none⟩) c nw b.W hlen e.wk h0 hwl hnw z66 hW.kw (Nat.le_trans hB hW.below.size)⟩
 have CR := Aside0.mk (fun W => rright_run e W)
 rw [hr] at CR
 have HN := Aside0.mk hn
 have HND := Aside0.mk nd
 have HB := Aside0.mk hB
 have HNW := Aside0.mk hnw
 have HLEN := Aside0.mk hlen
 have HRT := Aside0.mk hr
 have HJ := Aside0.mk (Rh.start hkr hkw hlen e)
 clear hn nd hB hkr hkw hlen hnw hr hwl hk ho h4
 have hcb := fun i => blk_cell HJ.out.b_ i
 have hce := fun i => blk_cell HJ.out.e_ i
 have hlb := blk_lt HJ.out.b_
 have hle := blk_lt HJ.out.e_
 have hlr := blk_lt HJ.out.r
 go_enter Try.func28, Try.ntmps28
 clear hx h0
 go_upto_region 8 with (first | (go_at_call 62; (with_reducible refine (CR.out _).mono ?_); rintro r w2 ⟨rfl, hb⟩; have HJ2 := Aside0.mk (HJ.out.step hb); clear hcb hce hlb hle hlr HJ; have HJ := HJ2; clear HJ2; have hcb := fun i => blk_cell HJ.out.b_ i; have hce := fun i => blk_cell HJ.out.e_ i; have hlb := blk_lt HJ.out.b_; have hle := blk_lt HJ.out.e_; have hlr := blk_lt HJ.out.r; clear hb) | ((with_reducible refine Go.Proofs.Ythniclbmpeklmaa.Ev.gate_load (t := 66) (p := 43) rfl ?_); go_loud (refine wpList_load_at rfl 66 _ rfl g (e.wk.toNat * 26) ?hx (wA x) _ ?hc hu3 rfl (wA_info x) ?_; (case hx => rfl); (case hc => obtain ⟨g2, q, _, q2⟩ := work_at HJ.out.len HJ.out.kw HW0.out HWL.out; rw [HXX.out] at q2; obtain rfl : g = g2 := (by injection q with q; injection q); exact q2))) | ((with_reducible refine gate_store (t := 66) (p := 8) rfl ?_); go_loud (refine wpList_store_row rfl 66 _ _ rfl (w2.heap.size) (wA x) rfl rfl 66 _ (blk_new w2 (.cells #[.int .i64 0, .int .i64 0, .int .i64 0, .int .i64 0, .int .i64 0, .int .i64 0, .int .i64 0, .int .i64 0, .int .i64 0, .int .i64 0, .bool false, .int .i64 0, .int .i64 0, .bool false, .int .i64 0, .int .i64 0, .int .i64 0, .int .i64 0, .int .i64 0, .int .i64 0, .int .i64 0, .int .i64 0, .int .i64 0, .int .i64 0, .bool false, .int .i64 0] 66)) (wA_info x) rfl (wA_one x) ?_; have HX := Aside0.mk (show Rx B w _ b A0 c0 (some ⟨g, 0, none⟩) c nw e w2.heap.size (wA x) from ⟨(HJ.out.newrow #[.int .i64 0, .int .i64 0, .int .i64 0, .int .i64 0, .int .i64 0, .int .i64 0, .int .i64 0, .int .i64 0, .int .i64 0, .int .i64 0, .bool false, .int .i64 0, .int .i64 0, .bool false, .int .i64 0, .int .i64 0, .int .i64 0, .int .i64 0, .int .i64 0, .int .i64 0, .int .i64 0, .int .i64 0, .int .i64 0, .int .i64 0, .bool false, .int .i64 0] (wA x) 66).1, (HJ.out.newrow #[.int .i64 0, .int .i64 0, .int .i64 0, .int .i64 0, .int .i64 0, .int .i64 0, .int .i64 0, .int .i64 0, .int .i64 0, .int .i64 0, .bool false, .int .i64 0, .int .i64 0, .bool false, .int .i64 0, .int .i64 0, .int .i64 0, .int .i64 0, .int .i64 0, .int .i64 0, .int .i64 0, .int .i64 0, .int .i64 0, .int .i64 0, .bool false, .int .i64 0] (wA x) 66).2, blk_lt HJ.out.r, own_ne HJ.out.len HJ.out.kw HW0.out HWL.out⟩); clear hcb hce hlb hle hlr HJ)))
 refine gen_world' (fun W => Rx B w W b A0 c0 (some ⟨g, 0, none⟩) c nw e w2.heap.size (wA x)) (by exact HX.out) fun W3 H3 => ?_
 have HX := Aside0.mk H3
 clear H3 p0 q0
 have hcb := fun i => blk_cell HX.out.rh.b_ i
 have hce := fun i => blk_cell HX.out.rh.e_ i
 have hlb := blk_lt HX.out.rh.b_
 have hle := blk_lt HX.out.rh.e_
 have hlr := blk_lt HX.out.rh.r
 have hcx := fun i => (show World.cell? _ ⟨w2.heap.size, i, none⟩ = (#[.int .i64 x.f0.f0, .int .i64 x.f0.f1, .int .i64 x.f0.f2, .int .i64 x.f0.f3.f0, .int .i64 x.f0.f3.f1, .int .i64 x.f0.f4.f0, .int .i64 x.f0.f4.f1, .int .i64 x.f0.f5, .int .i64 x.f0.f6, .int .i64 x.f0.f7, .bool x.f0.f8, .int .i64 x.f0.f9, .int .i64 x.f1, .bool x.f2, .int .i64 x.f3.f0, .int .i64 x.f3.f1, .int .i64 x.f3.f2, .int .i64 x.f3.f3.f0, .int .i64 x.f3.f3.f1, .int .i64 x.f3.f4.f0, .int .i64 x.f3.f4.f1, .int .i64 x.f3.f5, .int .i64 x.f3.f6, .int .i64 x.f3.f7, .bool x.f3.f8, .int .i64 x.f3.f9] : Array Value)[i]? from blk_cell HX.out.x_ i)
 have hlx := blk_lt HX.out.x_
 go_wp2_with (first | (go_at_call 63; go_loud ((with_reducible refine (CW.out _ HX.out.rh).mono ?_); rintro r w4 ⟨A2, c2, rfl, hk2, hb⟩; have HX2 := Aside0.mk (HX.out.step hb); clear hcb hce hlb hle hlr hcx hlx HX; have HX := HX2; clear HX2; have hcb := fun i => blk_cell HX.out.rh.b_ i; have hce := fun i => blk_cell HX.out.rh.e_ i; have hlb := blk_lt HX.out.rh.b_; have hle := blk_lt HX.out.rh.e_; have hlr := blk_lt HX.out.rh.r; have hcx := fun i => (show World.cell? _ ⟨w2.heap.size, i, none⟩ = (#[.int .i64 x.f0.f0, .int .i64 x.f0.f1, .int .i64 x.f0.f2, .int .i64 x.f0.f3.f0, .int .i64 x.f0.f3.f1, .int .i64 x.f0.f4.f0, .int .i64 x.f0.f4.f1, .int .i64 x.f0.f5, .int .i64 x.f0.f6, .int .i64 x.f0.f7, .bool x.f0.f8, .int .i64 x.f0.f9, .int .i64 x.f1, .bool x.f2, .int .i64 x.f3.f0, .int .i64 x.f3.f1, .int .i64 x.f3.f2, .int .i64 x.f3.f3.f0, .int .i64 x.f3.f3.f1, .int .i64 x.f3.f4.f0, .int .i64 x.f3.f4.f1, .int .i64 x.f3.f5, .int .i64 x.f3.f6, .int .i64 x.f3.f7, .bool x.f3.f8, .int .i64 x.f3.f9] : Array Value)[i]? from blk_cell HX.out.x_ i); have hlx := blk_lt HX.out.x_; have HK2 := Aside0.mk hk2; clear hb hk2)) | ((with_reducible refine gate_store (t := 46) (p := 4) rfl ?_); go_loud (refine wpList_store_row rfl 46 _ _ rfl (w.heap.size + 1 + 1) #[.int .i64 b.m.clk, .slice A0 b.m.L.length c0, .slice A2 nw c2] rfl rfl 46 _ HX.out.rh.r (by kernel_rfl) rfl (by simp [Value.oneCell']) ?_; have HFIN := Aside0.mk (HX.out.rh.fin #[.int .i64 b.m.clk, .slice A0 b.m.L.length c0, .slice A2 nw c2] HX.out.rh.kr HK2.out))))
 obtain ⟨hr9, hk9, hw9, hb9⟩ := HFIN.out
 unfold RhPost
 rw [HF.out]
 refine bodyPost_ret (v := .tuple #[.agg #[.int .i64 b.m.clk, .slice A0 b.m.L.length c0, .slice A2 nw c2], .int .i64 0]) ?_ rfl ⟨A0, c0, A2, c2, rfl, hk9, hw9, hb9, (by rw [List.length_set]; exact HLEN.out)⟩
 have hrow := run_loadVar_row (P := Try.prog) _ (w.heap.size + 1 + 1) 46 46 _ (0, 0) _ hr9 hu0 rfl (by kernel_rfl)
 simp [results, Try.results28, asAddr, hrow]
theorem rhear_back {w : World} {B : Nat} (b : Rb) (A0 : Option Addr) (c0 : Nat) (A : Option Addr) (c nw : Nat) (e : Au.Ev) (hn : b.m.L.length ≤ 90000) (nd : (b.m.L.map S127.h).Nodup) (hB : B ≤ w.heap.size) (hkr : KR w B (.slice A0 b.m.L.length c0) b.m.L) (hkw : KW w B (.slice A nw c) b.W) (hlen : b.W.length = nw) (hnw : nw ≤ 64) (hr : rightJ e = true) (hwl : e.wk < (nw : Int)) (hk : e.k = 5) (ho : (rd_T66 b.W e.wk).f0.f2 = e.op) (h4 : e.op ≤ 4) (hp : (rd_T66 b.W e.wk).f2 = true) (hq : ((rd_T66 b.W e.wk).f3.f4.f0 == e.nn && (rd_T66 b.W e.wk).f3.f4.f1 == e.ng) = true) (hy : ((rd_T66 b.W e.wk).f3.f8 == e.y) = true) (hz : ((rd_T66 b.W e.wk).f3.f9 == e.er) = true) :
  Calls Try.prog 28 #[.agg #[.int .i64 b.m.clk, .slice A0 b.m.L.length c0, .slice A nw c], .agg (evA e)] w (RhPost B w nw (rhearF b e)) := by
 have hu0 := Try.underlying46
 have hu1 := Try.underlying36
 have hu2 := Try.underlying50
 have hu3 := Try.underlying66
 have hu4 := Try.underlying43
 have hu5 := Try.underlying44
 have HF := Aside0.mk (show rhearF b e = (⟨b.m, b.W.set e.wk.toNat z66⟩, 0) by unfold rhearF; rw [if_neg (by rw [hr, hlen]; simp; omega), if_neg (show ¬ e.k = 1 by omega), if_neg (show ¬ e.k = 2 by omega), if_neg (show ¬ e.k = 3 by omega), if_neg (show ¬ e.k = 4 by omega)]; rw [if_pos (by unfold rans; simp only [Bool.and_eq_true, Bool.or_eq_true, beq_iff_eq, Bool.not_eq_true', decide_eq_false_iff_not]; simp_all)])
 have h0 := right_wk hr
 have HW0 := Aside0.mk h0
 obtain ⟨g, rfl, _, _⟩ := work_at hlen hkw h0 hwl
 obtain ⟨x, hx⟩ : ∃ x, rd_T66 b.W e.wk = x := ⟨_, rfl⟩
 have HXX := Aside0.mk hx
 have p0 : (0 ≤ e.wk) = True := eq_true h0
 have q0 : (e.wk < (nw : Int)) = True := eq_true hwl
 have d0 : decide (e.wk ≥ (nw : Int)) = false := decide_eq_false (by omega)
 have HWL := Aside0.mk hwl
 have qk1 : (e.k == 1) = false := beq_eq_false_iff_ne.2 (by omega)
 have qk2 : (e.k == 2) = false := beq_eq_false_iff_ne.2 (by omega)
 have qk3 : (e.k == 3) = false := beq_eq_false_iff_ne.2 (by omega)
 have qk4 : (e.k == 4) = false := beq_eq_false_iff_ne.2 (by omega)
 rw [hx] at ho hp hq hy hz
 have o0 : (x.f0.f2 == e.op) = true := beq_iff_eq.2 (ho)
 have l4 : decide (e.op ≤ 4) = true := decide_eq_true (h4)
 have zhp := hp
 have zhq := hq
 have zhy := hy
 have zhz := hz
 have CW : Aside0 (∀ W, Rh B w W b A0 c0 (some ⟨g, 0, none⟩) c nw e → Calls Try.prog 63 #[.agg #[.int .i64 b.m.clk, .slice A0 b.m.L.length c0, .slice (some ⟨g, 0, none⟩) nw c], .int .i64 e.wk, .agg #[.int .i64 0, .int .i64 0, .int .i64 0, .int .i64 0, .int .i64 0, .int .i64 0, .int .i64 0, .int .i64 0, .int .i64 0, .int .i64 0, .bool false, .int .i64 0, .int .i64 0, .bool false, .int .i64 0, .int .i64 0, .int .i64 0, .int .i64 0, .int .i64 0, .int .i64 0, .int .i64 0, .int .i64 0, .int .i64 0, .int .i64 0, .bool false, .int .i64 0]] W fun r w' => ∃ A2 c2, r = .returned (.agg #[.int .i64 b.m.clk, .slice A0 b.m.L.length c0, .slice A2 nw c2]) ∧ KW w' B (.slice A2 nw c2) (b.W.set e.wk.toNat z66) ∧ Below W.heap.size W w') := ⟨fun W hW => with_lit b.m.clk A0 _ c0 (some ⟨g, 0, none⟩) c nw b.W hlen e.wk h0 hwl hnw z66 hW.kw (Nat.le_trans hB hW.below.size)⟩
 have CR := Aside0.mk (fun W => rright_run e W)
 rw [hr] at CR
 have HN := Aside0.mk hn
 have HND := Aside0.mk nd
 have HB := Aside0.mk hB
 have HNW := Aside0.mk hnw
 have HLEN := Aside0.mk hlen
 have HRT := Aside0.mk hr
 have HJ := Aside0.mk (Rh.start hkr hkw hlen e)
 clear hn nd hB hkr hkw hlen hnw hr hwl hk ho h4 hp hq hy hz
 have hcb := fun i => blk_cell HJ.out.b_ i
 have hce := fun i => blk_cell HJ.out.e_ i
 have hlb := blk_lt HJ.out.b_
 have hle := blk_lt HJ.out.e_
 have hlr := blk_lt HJ.out.r
 go_enter Try.func28, Try.ntmps28
 clear hx h0
 go_upto_region 8 with (first | (go_at_call 62; (with_reducible refine (CR.out _).mono ?_); rintro r w2 ⟨rfl, hb⟩; have HJ2 := Aside0.mk (HJ.out.step hb); clear hcb hce hlb hle hlr HJ; have HJ := HJ2; clear HJ2; have hcb := fun i => blk_cell HJ.out.b_ i; have hce := fun i => blk_cell HJ.out.e_ i; have hlb := blk_lt HJ.out.b_; have hle := blk_lt HJ.out.e_; have hlr := blk_lt HJ.out.r; clear hb) | ((with_reducible refine Go.Proofs.Ythniclbmpeklmaa.Ev.gate_load (t := 66) (p := 43) rfl ?_); go_loud (refine wpList_load_at rfl 66 _ rfl g (e.wk.toNat * 26) ?hx (wA x) _ ?hc hu3 rfl (wA_info x) ?_; (case hx => rfl); (case hc => obtain ⟨g2, q, _, q2⟩ := work_at HJ.out.len HJ.out.kw HW0.out HWL.out; rw [HXX.out] at q2; obtain rfl : g = g2 := (by injection q with q; injection q); exact q2))) | ((with_reducible refine gate_store (t := 66) (p := 8) rfl ?_); go_loud (refine wpList_store_row rfl 66 _ _ rfl (w2.heap.size) (wA x) rfl rfl 66 _ (blk_new w2 (.cells #[.int .i64 0, .int .i64 0, .int .i64 0, .int .i64 0, .int .i64 0, .int .i64 0, .int .i64 0, .int .i64 0, .int .i64 0, .int .i64 0, .bool false, .int .i64 0, .int .i64 0, .bool false, .int .i64 0, .int .i64 0, .int .i64 0, .int .i64 0, .int .i64 0, .int .i64 0, .int .i64 0, .int .i64 0, .int .i64 0, .int .i64 0, .bool false, .int .i64 0] 66)) (wA_info x) rfl (wA_one x) ?_; have HX := Aside0.mk (show Rx B w _ b A0 c0 (some ⟨g, 0, none⟩) c nw e w2.heap.size (wA x) from ⟨(HJ.out.newrow #[.int .i64 0, .int .i64 0, .int .i64 0, .int .i64 0, .int .i64 0, .int .i64 0, .int .i64 0, .int .i64 0, .int .i64 0, .int .i64 0, .bool false, .int .i64 0, .int .i64 0, .bool false, .int .i64 0, .int .i64 0, .int .i64 0, .int .i64 0, .int .i64 0, .int .i64 0, .int .i64 0, .int .i64 0, .int .i64 0, .int .i64 0, .bool false, .int .i64 0] (wA x) 66).1, (HJ.out.newrow #[.int .i64 0, .int .i64 0, .int .i64 0, .int .i64 0, .int .i64 0, .int .i64 0, .int .i64 0, .int .i64 0, .int .i64 0, .int .i64 0, .bool false, .int .i64 0, .int .i64 0, .bool false, .int .i64 0, .int .i64 0, .int .i64 0, .int .i64 0, .int .i64 0, .int .i64 0, .int .i64 0, .int .i64 0, .int .i64 0, .int .i64 0, .bool false, .int .i64 0] (wA x) 66).2, blk_lt HJ.out.r, own_ne HJ.out.len HJ.out.kw HW0.out HWL.out⟩); clear hcb hce hlb hle hlr HJ)))
 refine gen_world' (fun W => Rx B w W b A0 c0 (some ⟨g, 0, none⟩) c nw e w2.heap.size (wA x)) (by exact HX.out) fun W3 H3 => ?_
 have HX := Aside0.mk H3
 clear H3 p0 q0
 have hcb := fun i => blk_cell HX.out.rh.b_ i
 have hce := fun i => blk_cell HX.out.rh.e_ i
 have hlb := blk_lt HX.out.rh.b_
 have hle := blk_lt HX.out.rh.e_
 have hlr := blk_lt HX.out.rh.r
 have hcx := fun i => (show World.cell? _ ⟨w2.heap.size, i, none⟩ = (#[.int .i64 x.f0.f0, .int .i64 x.f0.f1, .int .i64 x.f0.f2, .int .i64 x.f0.f3.f0, .int .i64 x.f0.f3.f1, .int .i64 x.f0.f4.f0, .int .i64 x.f0.f4.f1, .int .i64 x.f0.f5, .int .i64 x.f0.f6, .int .i64 x.f0.f7, .bool x.f0.f8, .int .i64 x.f0.f9, .int .i64 x.f1, .bool x.f2, .int .i64 x.f3.f0, .int .i64 x.f3.f1, .int .i64 x.f3.f2, .int .i64 x.f3.f3.f0, .int .i64 x.f3.f3.f1, .int .i64 x.f3.f4.f0, .int .i64 x.f3.f4.f1, .int .i64 x.f3.f5, .int .i64 x.f3.f6, .int .i64 x.f3.f7, .bool x.f3.f8, .int .i64 x.f3.f9] : Array Value)[i]? from blk_cell HX.out.x_ i)
 have hlx := blk_lt HX.out.x_
 go_wp2_with (first | (go_at_call 63; go_loud ((with_reducible refine (CW.out _ HX.out.rh).mono ?_); rintro r w4 ⟨A2, c2, rfl, hk2, hb⟩; have HX2 := Aside0.mk (HX.out.step hb); clear hcb hce hlb hle hlr hcx hlx HX; have HX := HX2; clear HX2; have hcb := fun i => blk_cell HX.out.rh.b_ i; have hce := fun i => blk_cell HX.out.rh.e_ i; have hlb := blk_lt HX.out.rh.b_; have hle := blk_lt HX.out.rh.e_; have hlr := blk_lt HX.out.rh.r; have hcx := fun i => (show World.cell? _ ⟨w2.heap.size, i, none⟩ = (#[.int .i64 x.f0.f0, .int .i64 x.f0.f1, .int .i64 x.f0.f2, .int .i64 x.f0.f3.f0, .int .i64 x.f0.f3.f1, .int .i64 x.f0.f4.f0, .int .i64 x.f0.f4.f1, .int .i64 x.f0.f5, .int .i64 x.f0.f6, .int .i64 x.f0.f7, .bool x.f0.f8, .int .i64 x.f0.f9, .int .i64 x.f1, .bool x.f2, .int .i64 x.f3.f0, .int .i64 x.f3.f1, .int .i64 x.f3.f2, .int .i64 x.f3.f3.f0, .int .i64 x.f3.f3.f1, .int .i64 x.f3.f4.f0, .int .i64 x.f3.f4.f1, .int .i64 x.f3.f5, .int .i64 x.f3.f6, .int .i64 x.f3.f7, .bool x.f3.f8, .int .i64 x.f3.f9] : Array Value)[i]? from blk_cell HX.out.x_ i); have hlx := blk_lt HX.out.x_; have HK2 := Aside0.mk hk2; clear hb hk2)) | ((with_reducible refine gate_store (t := 46) (p := 4) rfl ?_); go_loud (refine wpList_store_row rfl 46 _ _ rfl (w.heap.size + 1 + 1) #[.int .i64 b.m.clk, .slice A0 b.m.L.length c0, .slice A2 nw c2] rfl rfl 46 _ HX.out.rh.r (by kernel_rfl) rfl (by simp [Value.oneCell']) ?_; have HFIN := Aside0.mk (HX.out.rh.fin #[.int .i64 b.m.clk, .slice A0 b.m.L.length c0, .slice A2 nw c2] HX.out.rh.kr HK2.out))))
 obtain ⟨hr9, hk9, hw9, hb9⟩ := HFIN.out
 unfold RhPost
 rw [HF.out]
 refine bodyPost_ret (v := .tuple #[.agg #[.int .i64 b.m.clk, .slice A0 b.m.L.length c0, .slice A2 nw c2], .int .i64 0]) ?_ rfl ⟨A0, c0, A2, c2, rfl, hk9, hw9, hb9, (by rw [List.length_set]; exact HLEN.out)⟩
 have hrow := run_loadVar_row (P := Try.prog) _ (w.heap.size + 1 + 1) 46 46 _ (0, 0) _ hr9 hu0 rfl (by kernel_rfl)
 simp [results, Try.results28, asAddr, hrow]
end Go.Proofs.Ythniclbmpeklmaa.KJf
end
section
set_option maxHeartbeats 4000000
set_option maxRecDepth 100000
namespace Go.Proofs.Ythniclbmpeklmaa.KJf
open Go.RowKit Go.Proofs.YthniclbmpeklmaaW.PrintWords Go.Proofs.YthniclbmpeklmaaW.PrintLast Go.Proofs.YthniclbmpeklmaaW.PrintMore Go.Proofs.Ythniclbmpeklmaa.Ju
open Go.Proofs.Ythniclbmpeklmaa.Au (evA types_ne RowIs)
open Go.Proofs.YthniclbmpeklmaaW.PrintWords renaming Ev → PE
set_option linter.unusedVariables false
set_option linter.unusedSimpArgs false
attribute [local go_sem high] eqA36
theorem rhear_point_no {w : World} {B : Nat} (b : Rb) (A0 : Option Addr) (c0 : Nat) (A : Option Addr) (c nw : Nat) (e : Au.Ev) (hn : b.m.L.length ≤ 90000) (nd : (b.m.L.map S127.h).Nodup) (hB : B ≤ w.heap.size) (hkr : KR w B (.slice A0 b.m.L.length c0) b.m.L) (hkw : KW w B (.slice A nw c) b.W) (hlen : b.W.length = nw) (hnw : nw ≤ 64) (hr : rightJ e = true) (hwl : e.wk < (nw : Int)) (hk : e.k = 3) (hpt : rptOk b.m.clk (rd_T66 b.W e.wk) e = false) (hxb : 0 ≤ (rd_T66 b.W e.wk).f1 ∧ (rd_T66 b.W e.wk).f1 ≤ 1000000) (hclk : b.m.clk ≤ 1000000) (htm : e.t ≤ 9223372036854775807) :
  Calls Try.prog 28 #[.agg #[.int .i64 b.m.clk, .slice A0 b.m.L.length c0, .slice A nw c], .agg (evA e)] w (RhPost B w nw (rhearF b e)) := by
 have hu0 := Try.underlying46
 have hu1 := Try.underlying36
 have hu2 := Try.underlying50
 have hu3 := Try.underlying66
 have hu4 := Try.underlying43
 have hu5 := Try.underlying44
 have HF := Aside0.mk (show rhearF b e = (b, 6) by unfold rhearF; rw [if_neg (by rw [hr, hlen]; simp; omega), if_neg (show ¬ e.k = 1 by omega), if_neg (show ¬ e.k = 2 by omega), if_pos hk]; rw [if_neg (by rw [hpt]; simp)])
 have h0 := right_wk hr
 have HW0 := Aside0.mk h0
 obtain ⟨g, rfl, _, _⟩ := work_at hlen hkw h0 hwl
 obtain ⟨x, hx⟩ : ∃ x, rd_T66 b.W e.wk = x := ⟨_, rfl⟩
 have HXX := Aside0.mk hx
 have p0 : (0 ≤ e.wk) = True := eq_true h0
 have q0 : (e.wk < (nw : Int)) = True := eq_true hwl
 have d0 : decide (e.wk ≥ (nw : Int)) = false := decide_eq_false (by omega)
 have HWL := Aside0.mk hwl
 have qk1 : (e.k == 1) = false := beq_eq_false_iff_ne.2 (by omega)
 have qk2 : (e.k == 2) = false := beq_eq_false_iff_ne.2 (by omega)
 have qk3 : (e.k == 3) = true := beq_iff_eq.2 hk
 have qk4 : (e.k == 4) = false := beq_eq_false_iff_ne.2 (by omega)
 rw [hx] at hpt hxb
 have CP : Aside0 (∀ W, Rh B w W b A0 c0 (some ⟨g, 0, none⟩) c nw e → Calls Try.prog 64 #[.agg #[.int .i64 b.m.clk, .slice A0 b.m.L.length c0, .slice (some ⟨g, 0, none⟩) nw c], .agg (wA x), .agg (evA e)] W fun r w' => r = .returned (.bool false) ∧ Below W.heap.size W w') := ⟨fun W hW => by have q := rpoint_any b.m.clk A0 c0 b.m.L (some ⟨g, 0, none⟩) c b.W x e hW.kr (by rw [hlen]; exact hW.kw) hr hk hxb.1 hxb.2 hclk htm; rw [hlen, hpt] at q; exact q⟩
 have CR := Aside0.mk (fun W => rright_run e W)
 rw [hr] at CR
 have HN := Aside0.mk hn
 have HND := Aside0.mk nd
 have HB := Aside0.mk hB
 have HNW := Aside0.mk hnw
 have HLEN := Aside0.mk hlen
 have HRT := Aside0.mk hr
 have HJ := Aside0.mk (Rh.start hkr hkw hlen e)
 clear hn nd hB hkr hkw hlen hnw hr hwl hk hpt hxb hclk htm
 have hcb := fun i => blk_cell HJ.out.b_ i
 have hce := fun i => blk_cell HJ.out.e_ i
 have hlb := blk_lt HJ.out.b_
 have hle := blk_lt HJ.out.e_
 have hlr := blk_lt HJ.out.r
 go_enter Try.func28, Try.ntmps28
 clear hx h0
 go_upto_region 8 with (first | (go_at_call 62; (with_reducible refine (CR.out _).mono ?_); rintro r w2 ⟨rfl, hb⟩; have HJ2 := Aside0.mk (HJ.out.step hb); clear hcb hce hlb hle hlr HJ; have HJ := HJ2; clear HJ2; have hcb := fun i => blk_cell HJ.out.b_ i; have hce := fun i => blk_cell HJ.out.e_ i; have hlb := blk_lt HJ.out.b_; have hle := blk_lt HJ.out.e_; have hlr := blk_lt HJ.out.r; clear hb) | ((with_reducible refine Go.Proofs.Ythniclbmpeklmaa.Ev.gate_load (t := 66) (p := 43) rfl ?_); go_loud (refine wpList_load_at rfl 66 _ rfl g (e.wk.toNat * 26) ?hx (wA x) _ ?hc hu3 rfl (wA_info x) ?_; (case hx => rfl); (case hc => obtain ⟨g2, q, _, q2⟩ := work_at HJ.out.len HJ.out.kw HW0.out HWL.out; rw [HXX.out] at q2; obtain rfl : g = g2 := (by injection q with q; injection q); exact q2))) | ((with_reducible refine gate_store (t := 66) (p := 8) rfl ?_); go_loud (refine wpList_store_row rfl 66 _ _ rfl (w2.heap.size) (wA x) rfl rfl 66 _ (blk_new w2 (.cells #[.int .i64 0, .int .i64 0, .int .i64 0, .int .i64 0, .int .i64 0, .int .i64 0, .int .i64 0, .int .i64 0, .int .i64 0, .int .i64 0, .bool false, .int .i64 0, .int .i64 0, .bool false, .int .i64 0, .int .i64 0, .int .i64 0, .int .i64 0, .int .i64 0, .int .i64 0, .int .i64 0, .int .i64 0, .int .i64 0, .int .i64 0, .bool false, .int .i64 0] 66)) (wA_info x) rfl (wA_one x) ?_; have HX := Aside0.mk (show Rx B w _ b A0 c0 (some ⟨g, 0, none⟩) c nw e w2.heap.size (wA x) from ⟨(HJ.out.newrow #[.int .i64 0, .int .i64 0, .int .i64 0, .int .i64 0, .int .i64 0, .int .i64 0, .int .i64 0, .int .i64 0, .int .i64 0, .int .i64 0, .bool false, .int .i64 0, .int .i64 0, .bool false, .int .i64 0, .int .i64 0, .int .i64 0, .int .i64 0, .int .i64 0, .int .i64 0, .int .i64 0, .int .i64 0, .int .i64 0, .int .i64 0, .bool false, .int .i64 0] (wA x) 66).1, (HJ.out.newrow #[.int .i64 0, .int .i64 0, .int .i64 0, .int .i64 0, .int .i64 0, .int .i64 0, .int .i64 0, .int .i64 0, .int .i64 0, .int .i64 0, .bool false, .int .i64 0, .int .i64 0, .bool false, .int .i64 0, .int .i64 0, .int .i64 0, .int .i64 0, .int .i64 0, .int .i64 0, .int .i64 0, .int .i64 0, .int .i64 0, .int .i64 0, .bool false, .int .i64 0] (wA x) 66).2, blk_lt HJ.out.r, own_ne HJ.out.len HJ.out.kw HW0.out HWL.out⟩); clear hcb hce hlb hle hlr HJ)))
 refine gen_world' (fun W => Rx B w W b A0 c0 (some ⟨g, 0, none⟩) c nw e w2.heap.size (wA x)) (by exact HX.out) fun W3 H3 => ?_
 have HX := Aside0.mk H3
 clear H3 p0 q0
 have hcb := fun i => blk_cell HX.out.rh.b_ i
 have hce := fun i => blk_cell HX.out.rh.e_ i
 have hlb := blk_lt HX.out.rh.b_
 have hle := blk_lt HX.out.rh.e_
 have hlr := blk_lt HX.out.rh.r
 have hcx := fun i => (show World.cell? _ ⟨w2.heap.size, i, none⟩ = (#[.int .i64 x.f0.f0, .int .i64 x.f0.f1, .int .i64 x.f0.f2, .int .i64 x.f0.f3.f0, .int .i64 x.f0.f3.f1, .int .i64 x.f0.f4.f0, .int .i64 x.f0.f4.f1, .int .i64 x.f0.f5, .int .i64 x.f0.f6, .int .i64 x.f0.f7, .bool x.f0.f8, .int .i64 x.f0.f9, .int .i64 x.f1, .bool x.f2, .int .i64 x.f3.f0, .int .i64 x.f3.f1, .int .i64 x.f3.f2, .int .i64 x.f3.f3.f0, .int .i64 x.f3.f3.f1, .int .i64 x.f3.f4.f0, .int .i64 x.f3.f4.f1, .int .i64 x.f3.f5, .int .i64 x.f3.f6, .int .i64 x.f3.f7, .bool x.f3.f8, .int .i64 x.f3.f9] : Array Value)[i]? from blk_cell HX.out.x_ i)
 have hlx := blk_lt HX.out.x_
 go_wp2_with (first | ((with_reducible refine Go.Proofs.Ythniclbmpeklmaa.Ev.gate_load (t := 66) (p := 8) rfl ?_); go_loud (refine wpList_load_row rfl 66 _ rfl (w2.heap.size) rfl 66 (wA x) (0, 0) _ HX.out.x_ hu3 rfl (wA_info _) ?_)) | (go_at_call 64; go_loud ((with_reducible refine (CP.out _ HX.out.rh).mono ?_); rintro r w4 ⟨rfl, hb⟩; have HX2 := Aside0.mk (HX.out.step hb); clear hcb hce hlb hle hlr hcx hlx HX; have HX := HX2; clear HX2; have hcb := fun i => blk_cell HX.out.rh.b_ i; have hce := fun i => blk_cell HX.out.rh.e_ i; have hlb := blk_lt HX.out.rh.b_; have hle := blk_lt HX.out.rh.e_; have hlr := blk_lt HX.out.rh.r; have hcx := fun i => (show World.cell? _ ⟨w2.heap.size, i, none⟩ = (#[.int .i64 x.f0.f0, .int .i64 x.f0.f1, .int .i64 x.f0.f2, .int .i64 x.f0.f3.f0, .int .i64 x.f0.f3.f1, .int .i64 x.f0.f4.f0, .int .i64 x.f0.f4.f1, .int .i64 x.f0.f5, .int .i64 x.f0.f6, .int .i64 x.f0.f7, .bool x.f0.f8, .int .i64 x.f0.f9, .int .i64 x.f1, .bool x.f2, .int .i64 x.f3.f0, .int .i64 x.f3.f1, .int .i64 x.f3.f2, .int .i64 x.f3.f3.f0, .int .i64 x.f3.f3.f1, .int .i64 x.f3.f4.f0, .int .i64 x.f3.f4.f1, .int .i64 x.f3.f5, .int .i64 x.f3.f6, .int .i64 x.f3.f7, .bool x.f3.f8, .int .i64 x.f3.f9] : Array Value)[i]? from blk_cell HX.out.x_ i); have hlx := blk_lt HX.out.x_; clear hb)) | ((with_reducible refine gate_store (t := 46) (p := 4) rfl ?_); go_loud (refine wpList_store_row rfl 46 _ _ rfl (w.heap.size + 1 + 1) #[.int .i64 b.m.clk, .slice A0 b.m.L.length c0, .slice (some ⟨g, 0, none⟩) nw c] rfl rfl 46 _ HX.out.rh.r (by kernel_rfl) rfl (by simp [Value.oneCell']) ?_; have HFIN := Aside0.mk (HX.out.rh.fin #[.int .i64 b.m.clk, .slice A0 b.m.L.length c0, .slice (some ⟨g, 0, none⟩) nw c] HX.out.rh.kr HX.out.rh.kw))))
 obtain ⟨hr9, hk9, hw9, hb9⟩ := HFIN.out
 unfold RhPost
 rw [HF.out]
 refine bodyPost_ret (v := .tuple #[.agg #[.int .i64 b.m.clk, .slice A0 b.m.L.length c0, .slice (some ⟨g, 0, none⟩) nw c], .int .i64 6]) ?_ rfl ⟨A0, c0, some ⟨g, 0, none⟩, c, rfl, hk9, hw9, hb9, HLEN.out⟩
 have hrow := run_loadVar_row (P := Try.prog) _ (w.heap.size + 1 + 1) 46 46 _ (0, 0) _ hr9 hu0 rfl (by kernel_rfl)
 simp [results, Try.results28, asAddr, hrow]
theorem rhear_point_fail {w : World} {B : Nat} (b : Rb) (A0 : Option Addr) (c0 : Nat) (A : Option Addr) (c nw : Nat) (e : Au.Ev) (hn : b.m.L.length ≤ 90000) (nd : (b.m.L.map S127.h).Nodup) (hB : B ≤ w.heap.size) (hkr : KR w B (.slice A0 b.m.L.length c0) b.m.L) (hkw : KW w B (.slice A nw c) b.W) (hlen : b.W.length = nw) (hnw : nw ≤ 64) (hr : rightJ e = true) (hwl : e.wk < (nw : Int)) (hk : e.k = 3) (hpt : rptOk b.m.clk (rd_T66 b.W e.wk) e = true) (hxb : 0 ≤ (rd_T66 b.W e.wk).f1 ∧ (rd_T66 b.W e.wk).f1 ≤ 1000000) (hclk : b.m.clk ≤ 1000000) (htm : e.t ≤ 9223372036854775807) (hz : ¬ (rdoF b.m e).2 = 0) :
  Calls Try.prog 28 #[.agg #[.int .i64 b.m.clk, .slice A0 b.m.L.length c0, .slice A nw c], .agg (evA e)] w (RhPost B w nw (rhearF b e)) := by
 have hu0 := Try.underlying46
 have hu1 := Try.underlying36
 have hu2 := Try.underlying50
 have hu3 := Try.underlying66
 have hu4 := Try.underlying43
 have hu5 := Try.underlying44
 have HF := Aside0.mk (show rhearF b e = (b, (rdoF b.m e).2) by unfold rhearF; rw [if_neg (by rw [hr, hlen]; simp; omega), if_neg (show ¬ e.k = 1 by omega), if_neg (show ¬ e.k = 2 by omega), if_pos hk]; rw [if_pos hpt]; unfold rcan; rw [if_neg hz])
 have h0 := right_wk hr
 have HW0 := Aside0.mk h0
 obtain ⟨g, rfl, _, _⟩ := work_at hlen hkw h0 hwl
 obtain ⟨x, hx⟩ : ∃ x, rd_T66 b.W e.wk = x := ⟨_, rfl⟩
 have HXX := Aside0.mk hx
 have p0 : (0 ≤ e.wk) = True := eq_true h0
 have q0 : (e.wk < (nw : Int)) = True := eq_true hwl
 have d0 : decide (e.wk ≥ (nw : Int)) = false := decide_eq_false (by omega)
 have HWL := Aside0.mk hwl
 have qk1 : (e.k == 1) = false := beq_eq_false_iff_ne.2 (by omega)
 have qk2 : (e.k == 2) = false := beq_eq_false_iff_ne.2 (by omega)
 have qk3 : (e.k == 3) = true := beq_iff_eq.2 hk
 have qk4 : (e.k == 4) = false := beq_eq_false_iff_ne.2 (by omega)
 rw [hx] at hpt hxb
 have CP : Aside0 (∀ W, Rh B w W b A0 c0 (some ⟨g, 0, none⟩) c nw e → Calls Try.prog 64 #[.agg #[.int .i64 b.m.clk, .slice A0 b.m.L.length c0, .slice (some ⟨g, 0, none⟩) nw c], .agg (wA x), .agg (evA e)] W fun r w' => r = .returned (.bool true) ∧ Below W.heap.size W w') := ⟨fun W hW => by have q := rpoint_any b.m.clk A0 c0 b.m.L (some ⟨g, 0, none⟩) c b.W x e hW.kr (by rw [hlen]; exact hW.kw) hr hk hxb.1 hxb.2 hclk htm; rw [hlen, hpt] at q; exact q⟩
 obtain ⟨⟨⟨clk1, L1⟩, k1⟩, hp⟩ : ∃ p, rdoF b.m e = p := ⟨_, rfl⟩
 have CD : Aside0 (∀ W, Rh B w W b A0 c0 (some ⟨g, 0, none⟩) c nw e → Calls Try.prog 45 #[.agg #[.int .i64 b.m.clk, .slice A0 b.m.L.length c0], .agg (evA e)] W fun r w' => ∃ A1 c1, r = .returned (.tuple #[.agg #[.int .i64 clk1, .slice A1 L1.length c1], .int .i64 k1]) ∧ KR w' B (.slice A1 L1.length c1) L1 ∧ Below W.heap.size W w') := ⟨fun W hW => do_lit (w := w) b.m A0 c0 e hn nd (Nat.le_trans hB hW.below.size) hW.kr hp⟩
 rw [hp] at hz HF
 have hzz : ¬ k1 = 0 := hz
 have kz : (k1 != 0) = true := bne_iff_ne.2 hzz
 have CR := Aside0.mk (fun W => rright_run e W)
 rw [hr] at CR
 have HN := Aside0.mk hn
 have HND := Aside0.mk nd
 have HB := Aside0.mk hB
 have HNW := Aside0.mk hnw
 have HLEN := Aside0.mk hlen
 have HRT := Aside0.mk hr
 have HJ := Aside0.mk (Rh.start hkr hkw hlen e)
 clear hn nd hB hkr hkw hlen hnw hr hwl hk hpt hxb hclk htm hz
 have hcb := fun i => blk_cell HJ.out.b_ i
 have hce := fun i => blk_cell HJ.out.e_ i
 have hlb := blk_lt HJ.out.b_
 have hle := blk_lt HJ.out.e_
 have hlr := blk_lt HJ.out.r
 go_enter Try.func28, Try.ntmps28
 clear hp hzz
 clear hx h0
 go_upto_region 8 with (first | (go_at_call 62; (with_reducible refine (CR.out _).mono ?_); rintro r w2 ⟨rfl, hb⟩; have HJ2 := Aside0.mk (HJ.out.step hb); clear hcb hce hlb hle hlr HJ; have HJ := HJ2; clear HJ2; have hcb := fun i => blk_cell HJ.out.b_ i; have hce := fun i => blk_cell HJ.out.e_ i; have hlb := blk_lt HJ.out.b_; have hle := blk_lt HJ.out.e_; have hlr := blk_lt HJ.out.r; clear hb) | ((with_reducible refine Go.Proofs.Ythniclbmpeklmaa.Ev.gate_load (t := 66) (p := 43) rfl ?_); go_loud (refine wpList_load_at rfl 66 _ rfl g (e.wk.toNat * 26) ?hx (wA x) _ ?hc hu3 rfl (wA_info x) ?_; (case hx => rfl); (case hc => obtain ⟨g2, q, _, q2⟩ := work_at HJ.out.len HJ.out.kw HW0.out HWL.out; rw [HXX.out] at q2; obtain rfl : g = g2 := (by injection q with q; injection q); exact q2))) | ((with_reducible refine gate_store (t := 66) (p := 8) rfl ?_); go_loud (refine wpList_store_row rfl 66 _ _ rfl (w2.heap.size) (wA x) rfl rfl 66 _ (blk_new w2 (.cells #[.int .i64 0, .int .i64 0, .int .i64 0, .int .i64 0, .int .i64 0, .int .i64 0, .int .i64 0, .int .i64 0, .int .i64 0, .int .i64 0, .bool false, .int .i64 0, .int .i64 0, .bool false, .int .i64 0, .int .i64 0, .int .i64 0, .int .i64 0, .int .i64 0, .int .i64 0, .int .i64 0, .int .i64 0, .int .i64 0, .int .i64 0, .bool false, .int .i64 0] 66)) (wA_info x) rfl (wA_one x) ?_; have HX := Aside0.mk (show Rx B w _ b A0 c0 (some ⟨g, 0, none⟩) c nw e w2.heap.size (wA x) from ⟨(HJ.out.newrow #[.int .i64 0, .int .i64 0, .int .i64 0, .int .i64 0, .int .i64 0, .int .i64 0, .int .i64 0, .int .i64 0, .int .i64 0, .int .i64 0, .bool false, .int .i64 0, .int .i64 0, .bool false, .int .i64 0, .int .i64 0, .int .i64 0, .int .i64 0, .int .i64 0, .int .i64 0, .int .i64 0, .int .i64 0, .int .i64 0, .int .i64 0, .bool false, .int .i64 0] (wA x) 66).1, (HJ.out.newrow #[.int .i64 0, .int .i64 0, .int .i64 0, .int .i64 0, .int .i64 0, .int .i64 0, .int .i64 0, .int .i64 0, .int .i64 0, .int .i64 0, .bool false, .int .i64 0, .int .i64 0, .bool false, .int .i64 0, .int .i64 0, .int .i64 0, .int .i64 0, .int .i64 0, .int .i64 0, .int .i64 0, .int .i64 0, .int .i64 0, .int .i64 0, .bool false, .int .i64 0] (wA x) 66).2, blk_lt HJ.out.r, own_ne HJ.out.len HJ.out.kw HW0.out HWL.out⟩); clear hcb hce hlb hle hlr HJ)))
 refine gen_world' (fun W => Rx B w W b A0 c0 (some ⟨g, 0, none⟩) c nw e w2.heap.size (wA x)) (by exact HX.out) fun W3 H3 => ?_
 have HX := Aside0.mk H3
 clear H3 p0 q0
 have hcb := fun i => blk_cell HX.out.rh.b_ i
 have hce := fun i => blk_cell HX.out.rh.e_ i
 have hlb := blk_lt HX.out.rh.b_
 have hle := blk_lt HX.out.rh.e_
 have hlr := blk_lt HX.out.rh.r
 have hcx := fun i => (show World.cell? _ ⟨w2.heap.size, i, none⟩ = (#[.int .i64 x.f0.f0, .int .i64 x.f0.f1, .int .i64 x.f0.f2, .int .i64 x.f0.f3.f0, .int .i64 x.f0.f3.f1, .int .i64 x.f0.f4.f0, .int .i64 x.f0.f4.f1, .int .i64 x.f0.f5, .int .i64 x.f0.f6, .int .i64 x.f0.f7, .bool x.f0.f8, .int .i64 x.f0.f9, .int .i64 x.f1, .bool x.f2, .int .i64 x.f3.f0, .int .i64 x.f3.f1, .int .i64 x.f3.f2, .int .i64 x.f3.f3.f0, .int .i64 x.f3.f3.f1, .int .i64 x.f3.f4.f0, .int .i64 x.f3.f4.f1, .int .i64 x.f3.f5, .int .i64 x.f3.f6, .int .i64 x.f3.f7, .bool x.f3.f8, .int .i64 x.f3.f9] : Array Value)[i]? from blk_cell HX.out.x_ i)
 have hlx := blk_lt HX.out.x_
 go_wp2_with (first | ((with_reducible refine Go.Proofs.Ythniclbmpeklmaa.Ev.gate_load (t := 66) (p := 8) rfl ?_); go_loud (refine wpList_load_row rfl 66 _ rfl (w2.heap.size) rfl 66 (wA x) (0, 0) _ HX.out.x_ hu3 rfl (wA_info _) ?_)) | (go_at_call 64; go_loud ((with_reducible refine (CP.out _ HX.out.rh).mono ?_); rintro r w4 ⟨rfl, hb⟩; have HX2 := Aside0.mk (HX.out.step hb); clear hcb hce hlb hle hlr hcx hlx HX; have HX := HX2; clear HX2; have hcb := fun i => blk_cell HX.out.rh.b_ i; have hce := fun i => blk_cell HX.out.rh.e_ i; have hlb := blk_lt HX.out.rh.b_; have hle := blk_lt HX.out.rh.e_; have hlr := blk_lt HX.out.rh.r; have hcx := fun i => (show World.cell? _ ⟨w2.heap.size, i, none⟩ = (#[.int .i64 x.f0.f0, .int .i64 x.f0.f1, .int .i64 x.f0.f2, .int .i64 x.f0.f3.f0, .int .i64 x.f0.f3.f1, .int .i64 x.f0.f4.f0, .int .i64 x.f0.f4.f1, .int .i64 x.f0.f5, .int .i64 x.f0.f6, .int .i64 x.f0.f7, .bool x.f0.f8, .int .i64 x.f0.f9, .int .i64 x.f1, .bool x.f2, .int .i64 x.f3.f0, .int .i64 x.f3.f1, .int .i64 x.f3.f2, .int .i64 x.f3.f3.f0, .int .i64 x.f3.f3.f1, .int .i64 x.f3.f4.f0, .int .i64 x.f3.f4.f1, .int .i64 x.f3.f5, .int .i64 x.f3.f6, .int .i64 x.f3.f7, .bool x.f3.f8, .int .i64 x.f3.f9] : Array Value)[i]? from blk_cell HX.out.x_ i); have hlx := blk_lt HX.out.x_; clear hb)) | (go_at_call 45; go_loud ((with_reducible refine (CD.out _ HX.out.rh).mono ?_); rintro r w5 ⟨A1, c1, rfl, hk1, hb⟩; have HX2 := Aside0.mk (HX.out.step hb); clear hcb hce hlb hle hlr hcx hlx HX; have HX := HX2; clear HX2; have hcb := fun i => blk_cell HX.out.rh.b_ i; have hce := fun i => blk_cell HX.out.rh.e_ i; have hlb := blk_lt HX.out.rh.b_; have hle := blk_lt HX.out.rh.e_; have hlr := blk_lt HX.out.rh.r; have hcx := fun i => (show World.cell? _ ⟨w2.heap.size, i, none⟩ = (#[.int .i64 x.f0.f0, .int .i64 x.f0.f1, .int .i64 x.f0.f2, .int .i64 x.f0.f3.f0, .int .i64 x.f0.f3.f1, .int .i64 x.f0.f4.f0, .int .i64 x.f0.f4.f1, .int .i64 x.f0.f5, .int .i64 x.f0.f6, .int .i64 x.f0.f7, .bool x.f0.f8, .int .i64 x.f0.f9, .int .i64 x.f1, .bool x.f2, .int .i64 x.f3.f0, .int .i64 x.f3.f1, .int .i64 x.f3.f2, .int .i64 x.f3.f3.f0, .int .i64 x.f3.f3.f1, .int .i64 x.f3.f4.f0, .int .i64 x.f3.f4.f1, .int .i64 x.f3.f5, .int .i64 x.f3.f6, .int .i64 x.f3.f7, .bool x.f3.f8, .int .i64 x.f3.f9] : Array Value)[i]? from blk_cell HX.out.x_ i); have hlx := blk_lt HX.out.x_; have HK1 := Aside0.mk hk1; clear hb hk1)) | ((with_reducible refine gate_store (t := 43) (p := 11) rfl ?_); go_loud (refine wpList_store_row rfl 43 _ _ rfl (w5.heap.size) #[.int .i64 clk1, .slice A1 L1.length c1] rfl rfl 43 _ (blk_new w5 (.cells #[.int .i64 0, .slice none 0 0] 43)) (by kernel_rfl) rfl (by simp [Value.oneCell']) ?_; have HT := Aside0.mk (HX.out.newrow #[.int .i64 0, .slice none 0 0] #[.int .i64 clk1, .slice A1 L1.length c1] 43).2; have HK2 := Aside0.mk (KR.keep (Kd.R_below HK1.out (below_alloc (Below.refl _ _) (.cells #[.int .i64 0, .slice none 0 0] 43))) (W1 := (w5.alloc (.cells #[.int .i64 0, .slice none 0 0] 43)).setRow w5.heap.size #[.int .i64 clk1, .slice A1 L1.length c1]) (fun g cs hg => setRow_other _ _ g _ (types_ne hg (blk_new w5 _) (by decide)))); clear HK1; have HK1 := HK2; clear HK2; have hct := fun i => blk_cell HT.out i; have hlt := blk_lt HT.out; have HX2 := Aside0.mk ((HX.out.newrow #[.int .i64 0, .slice none 0 0] #[.int .i64 clk1, .slice A1 L1.length c1] 43).1); clear hcb hce hlb hle hlr hcx hlx HX; have HX := HX2; clear HX2; have hcb := fun i => blk_cell HX.out.rh.b_ i; have hce := fun i => blk_cell HX.out.rh.e_ i; have hlb := blk_lt HX.out.rh.b_; have hle := blk_lt HX.out.rh.e_; have hlr := blk_lt HX.out.rh.r; have hcx := fun i => (show World.cell? _ ⟨w2.heap.size, i, none⟩ = (#[.int .i64 x.f0.f0, .int .i64 x.f0.f1, .int .i64 x.f0.f2, .int .i64 x.f0.f3.f0, .int .i64 x.f0.f3.f1, .int .i64 x.f0.f4.f0, .int .i64 x.f0.f4.f1, .int .i64 x.f0.f5, .int .i64 x.f0.f6, .int .i64 x.f0.f7, .bool x.f0.f8, .int .i64 x.f0.f9, .int .i64 x.f1, .bool x.f2, .int .i64 x.f3.f0, .int .i64 x.f3.f1, .int .i64 x.f3.f2, .int .i64 x.f3.f3.f0, .int .i64 x.f3.f3.f1, .int .i64 x.f3.f4.f0, .int .i64 x.f3.f4.f1, .int .i64 x.f3.f5, .int .i64 x.f3.f6, .int .i64 x.f3.f7, .bool x.f3.f8, .int .i64 x.f3.f9] : Array Value)[i]? from blk_cell HX.out.x_ i); have hlx := blk_lt HX.out.x_)) | ((with_reducible refine gate_store (t := 46) (p := 4) rfl ?_); go_loud (refine wpList_store_row rfl 46 _ _ rfl (w.heap.size + 1 + 1) #[.int .i64 b.m.clk, .slice A0 b.m.L.length c0, .slice (some ⟨g, 0, none⟩) nw c] rfl rfl 46 _ HX.out.rh.r (by kernel_rfl) rfl (by simp [Value.oneCell']) ?_; have HFIN := Aside0.mk (HX.out.rh.fin #[.int .i64 b.m.clk, .slice A0 b.m.L.length c0, .slice (some ⟨g, 0, none⟩) nw c] HX.out.rh.kr HX.out.rh.kw))))
 obtain ⟨hr9, hk9, hw9, hb9⟩ := HFIN.out
 unfold RhPost
 rw [HF.out]
 refine bodyPost_ret (v := .tuple #[.agg #[.int .i64 b.m.clk, .slice A0 b.m.L.length c0, .slice (some ⟨g, 0, none⟩) nw c], .int .i64 k1]) ?_ rfl ⟨A0, c0, some ⟨g, 0, none⟩, c, rfl, hk9, hw9, hb9, HLEN.out⟩
 have hrow := run_loadVar_row (P := Try.prog) _ (w.heap.size + 1 + 1) 46 46 _ (0, 0) _ hr9 hu0 rfl (by kernel_rfl)
 simp [results, Try.results28, asAddr, hrow]
theorem rhear_fire_fail {w : World} {B : Nat} (b : Rb) (A0 : Option Addr) (c0 : Nat) (A : Option Addr) (c nw : Nat) (e : Au.Ev) (hn : b.m.L.length ≤ 90000) (nd : (b.m.L.map S127.h).Nodup) (hB : B ≤ w.heap.size) (hkr : KR w B (.slice A0 b.m.L.length c0) b.m.L) (hkw : KW w B (.slice A nw c) b.W) (hlen : b.W.length = nw) (hnw : nw ≤ 64) (hr : rightJ e = true) (hwl : e.wk < (nw : Int)) (hk : e.k = 4) (hi : (rd_T66 b.W e.wk).f0.f2 = 5) (ht : (rd_T66 b.W e.wk).f1 ≤ e.t) (hz : ¬ (rdoF b.m e).2 = 0) :
  Calls Try.prog 28 #[.agg #[.int .i64 b.m.clk, .slice A0 b.m.L.length c0, .slice A nw c], .agg (evA e)] w (RhPost B w nw (rhearF b e)) := by
 have hu0 := Try.underlying46
 have hu1 := Try.underlying36
 have hu2 := Try.underlying50
 have hu3 := Try.underlying66
 have hu4 := Try.underlying43
 have hu5 := Try.underlying44
 have HF := Aside0.mk (show rhearF b e = (b, (rdoF b.m e).2) by unfold rhearF; rw [if_neg (by rw [hr, hlen]; simp; omega), if_neg (show ¬ e.k = 1 by omega), if_neg (show ¬ e.k = 2 by omega), if_neg (show ¬ e.k = 3 by omega), if_pos hk]; rw [if_pos ⟨hi, ht⟩]; unfold rcan; rw [if_neg hz])
 have h0 := right_wk hr
 have HW0 := Aside0.mk h0
 obtain ⟨g, rfl, _, _⟩ := work_at hlen hkw h0 hwl
 obtain ⟨x, hx⟩ : ∃ x, rd_T66 b.W e.wk = x := ⟨_, rfl⟩
 have HXX := Aside0.mk hx
 have p0 : (0 ≤ e.wk) = True := eq_true h0
 have q0 : (e.wk < (nw : Int)) = True := eq_true hwl
 have d0 : decide (e.wk ≥ (nw : Int)) = false := decide_eq_false (by omega)
 have HWL := Aside0.mk hwl
 have qk1 : (e.k == 1) = false := beq_eq_false_iff_ne.2 (by omega)
 have qk2 : (e.k == 2) = false := beq_eq_false_iff_ne.2 (by omega)
 have qk3 : (e.k == 3) = false := beq_eq_false_iff_ne.2 (by omega)
 have qk4 : (e.k == 4) = true := beq_iff_eq.2 hk
 rw [hx] at hi ht
 have i5 : (x.f0.f2 == 5) = true := beq_iff_eq.2 (hi)
 have t5 : decide (e.t ≥ x.f1) = true := decide_eq_true (ht)
 obtain ⟨⟨⟨clk1, L1⟩, k1⟩, hp⟩ : ∃ p, rdoF b.m e = p := ⟨_, rfl⟩
 have CD : Aside0 (∀ W, Rh B w W b A0 c0 (some ⟨g, 0, none⟩) c nw e → Calls Try.prog 45 #[.agg #[.int .i64 b.m.clk, .slice A0 b.m.L.length c0], .agg (evA e)] W fun r w' => ∃ A1 c1, r = .returned (.tuple #[.agg #[.int .i64 clk1, .slice A1 L1.length c1], .int .i64 k1]) ∧ KR w' B (.slice A1 L1.length c1) L1 ∧ Below W.heap.size W w') := ⟨fun W hW => do_lit (w := w) b.m A0 c0 e hn nd (Nat.le_trans hB hW.below.size) hW.kr hp⟩
 rw [hp] at hz HF
 have hzz : ¬ k1 = 0 := hz
 have kz : (k1 != 0) = true := bne_iff_ne.2 hzz
 have CR := Aside0.mk (fun W => rright_run e W)
 rw [hr] at CR
 have HN := Aside0.mk hn
 have HND := Aside0.mk nd
 have HB := Aside0.mk hB
 have HNW := Aside0.mk hnw
 have HLEN := Aside0.mk hlen
 have HRT := Aside0.mk hr
 have HJ := Aside0.mk (Rh.start hkr hkw hlen e)
 clear hn nd hB hkr hkw hlen hnw hr hwl hk hi ht hz
 have hcb := fun i => blk_cell HJ.out.b_ i
 have hce := fun i => blk_cell HJ.out.e_ i
 have hlb := blk_lt HJ.out.b_
 have hle := blk_lt HJ.out.e_
 have hlr := blk_lt HJ.out.r
 go_enter Try.func28, Try.ntmps28
 clear hp hzz
 clear hx h0
 go_upto_region 8 with (first | (go_at_call 62; (with_reducible refine (CR.out _).mono ?_); rintro r w2 ⟨rfl, hb⟩; have HJ2 := Aside0.mk (HJ.out.step hb); clear hcb hce hlb hle hlr HJ; have HJ := HJ2; clear HJ2; have hcb := fun i => blk_cell HJ.out.b_ i; have hce := fun i => blk_cell HJ.out.e_ i; have hlb := blk_lt HJ.out.b_; have hle := blk_lt HJ.out.e_; have hlr := blk_lt HJ.out.r; clear hb) | ((with_reducible refine Go.Proofs.Ythniclbmpeklmaa.Ev.gate_load (t := 66) (p := 43) rfl ?_); go_loud (refine wpList_load_at rfl 66 _ rfl g (e.wk.toNat * 26) ?hx (wA x) _ ?hc hu3 rfl (wA_info x) ?_; (case hx => rfl); (case hc => obtain ⟨g2, q, _, q2⟩ := work_at HJ.out.len HJ.out.kw HW0.out HWL.out; rw [HXX.out] at q2; obtain rfl : g = g2 := (by injection q with q; injection q); exact q2))) | ((with_reducible refine gate_store (t := 66) (p := 8) rfl ?_); go_loud (refine wpList_store_row rfl 66 _ _ rfl (w2.heap.size) (wA x) rfl rfl 66 _ (blk_new w2 (.cells #[.int .i64 0, .int .i64 0, .int .i64 0, .int .i64 0, .int .i64 0, .int .i64 0, .int .i64 0, .int .i64 0, .int .i64 0, .int .i64 0, .bool false, .int .i64 0, .int .i64 0, .bool false, .int .i64 0, .int .i64 0, .int .i64 0, .int .i64 0, .int .i64 0, .int .i64 0, .int .i64 0, .int .i64 0, .int .i64 0, .int .i64 0, .bool false, .int .i64 0] 66)) (wA_info x) rfl (wA_one x) ?_; have HX := Aside0.mk (show Rx B w _ b A0 c0 (some ⟨g, 0, none⟩) c nw e w2.heap.size (wA x) from ⟨(HJ.out.newrow #[.int .i64 0, .int .i64 0, .int .i64 0, .int .i64 0, .int .i64 0, .int .i64 0, .int .i64 0, .int .i64 0, .int .i64 0, .int .i64 0, .bool false, .int .i64 0, .int .i64 0, .bool false, .int .i64 0, .int .i64 0, .int .i64 0, .int .i64 0, .int .i64 0, .int .i64 0, .int .i64 0, .int .i64 0, .int .i64 0, .int .i64 0, .bool false, .int .i64 0] (wA x) 66).1, (HJ.out.newrow #[.int .i64 0, .int .i64 0, .int .i64 0, .int .i64 0, .int .i64 0, .int .i64 0, .int .i64 0, .int .i64 0, .int .i64 0, .int .i64 0, .bool false, .int .i64 0, .int .i64 0, .bool false, .int .i64 0, .int .i64 0, .int .i64 0, .int .i64 0, .int .i64 0, .int .i64 0, .int .i64 0, .int .i64 0, .int .i64 0, .int .i64 0, .bool false, .int .i64 0] (wA x) 66).2, blk_lt HJ.out.r, own_ne HJ.out.len HJ.out.kw HW0.out HWL.out⟩); clear hcb hce hlb hle hlr HJ)))
 refine gen_world' (fun W => Rx B w W b A0 c0 (some ⟨g, 0, none⟩) c nw e w2.heap.size (wA x)) (by exact HX.out) fun W3 H3 => ?_
 have HX := Aside0.mk H3
 clear H3 p0 q0
 have hcb := fun i => blk_cell HX.out.rh.b_ i
 have hce := fun i => blk_cell HX.out.rh.e_ i
 have hlb := blk_lt HX.out.rh.b_
 have hle := blk_lt HX.out.rh.e_
 have hlr := blk_lt HX.out.rh.r
 have hcx := fun i => (show World.cell? _ ⟨w2.heap.size, i, none⟩ = (#[.int .i64 x.f0.f0, .int .i64 x.f0.f1, .int .i64 x.f0.f2, .int .i64 x.f0.f3.f0, .int .i64 x.f0.f3.f1, .int .i64 x.f0.f4.f0, .int .i64 x.f0.f4.f1, .int .i64 x.f0.f5, .int .i64 x.f0.f6, .int .i64 x.f0.f7, .bool x.f0.f8, .int .i64 x.f0.f9, .int .i64 x.f1, .bool x.f2, .int .i64 x.f3.f0, .int .i64 x.f3.f1, .int .i64 x.f3.f2, .int .i64 x.f3.f3.f0, .int .i64 x.f3.f3.f1, .int .i64 x.f3.f4.f0, .int .i64 x.f3.f4.f1, .int .i64 x.f3.f5, .int .i64 x.f3.f6, .int .i64 x.f3.f7, .bool x.f3.f8, .int .i64 x.f3.f9] : Array Value)[i]? from blk_cell HX.out.x_ i)
 have hlx := blk_lt HX.out.x_
 go_wp2_with (first | (go_at_call 45; go_loud ((with_reducible refine (CD.out _ HX.out.rh).mono ?_); rintro r w5 ⟨A1, c1, rfl, hk1, hb⟩; have HX2 := Aside0.mk (HX.out.step hb); clear hcb hce hlb hle hlr hcx hlx HX; have HX := HX2; clear HX2; have hcb := fun i => blk_cell HX.out.rh.b_ i; have hce := fun i => blk_cell HX.out.rh.e_ i; have hlb := blk_lt HX.out.rh.b_; have hle := blk_lt HX.out.rh.e_; have hlr := blk_lt HX.out.rh.r; have hcx := fun i => (show World.cell? _ ⟨w2.heap.size, i, none⟩ = (#[.int .i64 x.f0.f0, .int .i64 x.f0.f1, .int .i64 x.f0.f2, .int .i64 x.f0.f3.f0, .int .i64 x.f0.f3.f1, .int .i64 x.f0.f4.f0, .int .i64 x.f0.f4.f1, .int .i64 x.f0.f5, .int .i64 x.f0.f6, .int .i64 x.f0.f7, .bool x.f0.f8, .int .i64 x.f0.f9, .int .i64 x.f1, .bool x.f2, .int .i64 x.f3.f0, .int .i64 x.f3.f1, .int .i64 x.f3.f2, .int .i64 x.f3.f3.f0, .int .i64 x.f3.f3.f1, .int .i64 x.f3.f4.f0, .int .i64 x.f3.f4.f1, .int .i64 x.f3.f5, .int .i64 x.f3.f6, .int .i64 x.f3.f7, .bool x.f3.f8, .int .i64 x.f3.f9] : Array Value)[i]? from blk_cell HX.out.x_ i); have hlx := blk_lt HX.out.x_; have HK1 := Aside0.mk hk1; clear hb hk1)) | ((with_reducible refine gate_store (t := 43) (p := 11) rfl ?_); go_loud (refine wpList_store_row rfl 43 _ _ rfl (w5.heap.size) #[.int .i64 clk1, .slice A1 L1.length c1] rfl rfl 43 _ (blk_new w5 (.cells #[.int .i64 0, .slice none 0 0] 43)) (by kernel_rfl) rfl (by simp [Value.oneCell']) ?_; have HT := Aside0.mk (HX.out.newrow #[.int .i64 0, .slice none 0 0] #[.int .i64 clk1, .slice A1 L1.length c1] 43).2; have HK2 := Aside0.mk (KR.keep (Kd.R_below HK1.out (below_alloc (Below.refl _ _) (.cells #[.int .i64 0, .slice none 0 0] 43))) (W1 := (w5.alloc (.cells #[.int .i64 0, .slice none 0 0] 43)).setRow w5.heap.size #[.int .i64 clk1, .slice A1 L1.length c1]) (fun g cs hg => setRow_other _ _ g _ (types_ne hg (blk_new w5 _) (by decide)))); clear HK1; have HK1 := HK2; clear HK2; have hct := fun i => blk_cell HT.out i; have hlt := blk_lt HT.out; have HX2 := Aside0.mk ((HX.out.newrow #[.int .i64 0, .slice none 0 0] #[.int .i64 clk1, .slice A1 L1.length c1] 43).1); clear hcb hce hlb hle hlr hcx hlx HX; have HX := HX2; clear HX2; have hcb := fun i => blk_cell HX.out.rh.b_ i; have hce := fun i => blk_cell HX.out.rh.e_ i; have hlb := blk_lt HX.out.rh.b_; have hle := blk_lt HX.out.rh.e_; have hlr := blk_lt HX.out.rh.r; have hcx := fun i => (show World.cell? _ ⟨w2.heap.size, i, none⟩ = (#[.int .i64 x.f0.f0, .int .i64 x.f0.f1, .int .i64 x.f0.f2, .int .i64 x.f0.f3.f0, .int .i64 x.f0.f3.f1, .int .i64 x.f0.f4.f0, .int .i64 x.f0.f4.f1, .int .i64 x.f0.f5, .int .i64 x.f0.f6, .int .i64 x.f0.f7, .bool x.f0.f8, .int .i64 x.f0.f9, .int .i64 x.f1, .bool x.f2, .int .i64 x.f3.f0, .int .i64 x.f3.f1, .int .i64 x.f3.f2, .int .i64 x.f3.f3.f0, .int .i64 x.f3.f3.f1, .int .i64 x.f3.f4.f0, .int .i64 x.f3.f4.f1, .int .i64 x.f3.f5, .int .i64 x.f3.f6, .int .i64 x.f3.f7, .bool x.f3.f8, .int .i64 x.f3.f9] : Array Value)[i]? from blk_cell HX.out.x_ i); have hlx := blk_lt HX.out.x_)) | ((with_reducible refine gate_store (t := 46) (p := 4) rfl ?_); go_loud (refine wpList_store_row rfl 46 _ _ rfl (w.heap.size + 1 + 1) #[.int .i64 b.m.clk, .slice A0 b.m.L.length c0, .slice (some ⟨g, 0, none⟩) nw c] rfl rfl 46 _ HX.out.rh.r (by kernel_rfl) rfl (by simp [Value.oneCell']) ?_; have HFIN := Aside0.mk (HX.out.rh.fin #[.int .i64 b.m.clk, .slice A0 b.m.L.length c0, .slice (some ⟨g, 0, none⟩) nw c] HX.out.rh.kr HX.out.rh.kw))))
 obtain ⟨hr9, hk9, hw9, hb9⟩ := HFIN.out
 unfold RhPost
 rw [HF.out]
 refine bodyPost_ret (v := .tuple #[.agg #[.int .i64 b.m.clk, .slice A0 b.m.L.length c0, .slice (some ⟨g, 0, none⟩) nw c], .int .i64 k1]) ?_ rfl ⟨A0, c0, some ⟨g, 0, none⟩, c, rfl, hk9, hw9, hb9, HLEN.out⟩
 have hrow := run_loadVar_row (P := Try.prog) _ (w.heap.size + 1 + 1) 46 46 _ (0, 0) _ hr9 hu0 rfl (by kernel_rfl)
 simp [results, Try.results28, asAddr, hrow]
theorem rhear_fire {w : World} {B : Nat} (b : Rb) (A0 : Option Addr) (c0 : Nat) (A : Option Addr) (c nw : Nat) (e : Au.Ev) (hn : b.m.L.length ≤ 90000) (nd : (b.m.L.map S127.h).Nodup) (hB : B ≤ w.heap.size) (hkr : KR w B (.slice A0 b.m.L.length c0) b.m.L) (hkw : KW w B (.slice A nw c) b.W) (hlen : b.W.length = nw) (hnw : nw ≤ 64) (hr : rightJ e = true) (hwl : e.wk < (nw : Int)) (hk : e.k = 4) (hi : (rd_T66 b.W e.wk).f0.f2 = 5) (ht : (rd_T66 b.W e.wk).f1 ≤ e.t) (hz : (rdoF b.m e).2 = 0) :
  Calls Try.prog 28 #[.agg #[.int .i64 b.m.clk, .slice A0 b.m.L.length c0, .slice A nw c], .agg (evA e)] w (RhPost B w nw (rhearF b e)) := by
 have hu0 := Try.underlying46
 have hu1 := Try.underlying36
 have hu2 := Try.underlying50
 have hu3 := Try.underlying66
 have hu4 := Try.underlying43
 have hu5 := Try.underlying44
 have HF := Aside0.mk (show rhearF b e = (⟨(rdoF b.m e).1, b.W⟩, 0) by unfold rhearF; rw [if_neg (by rw [hr, hlen]; simp; omega), if_neg (show ¬ e.k = 1 by omega), if_neg (show ¬ e.k = 2 by omega), if_neg (show ¬ e.k = 3 by omega), if_pos hk]; rw [if_pos ⟨hi, ht⟩]; unfold rcan; rw [if_pos hz, if_neg (show ¬ e.k = 3 by omega)])
 have h0 := right_wk hr
 have HW0 := Aside0.mk h0
 obtain ⟨g, rfl, _, _⟩ := work_at hlen hkw h0 hwl
 obtain ⟨x, hx⟩ : ∃ x, rd_T66 b.W e.wk = x := ⟨_, rfl⟩
 have HXX := Aside0.mk hx
 have p0 : (0 ≤ e.wk) = True := eq_true h0
 have q0 : (e.wk < (nw : Int)) = True := eq_true hwl
 have d0 : decide (e.wk ≥ (nw : Int)) = false := decide_eq_false (by omega)
 have HWL := Aside0.mk hwl
 have qk1 : (e.k == 1) = false := beq_eq_false_iff_ne.2 (by omega)
 have qk2 : (e.k == 2) = false := beq_eq_false_iff_ne.2 (by omega)
 have qk3 : (e.k == 3) = false := beq_eq_false_iff_ne.2 (by omega)
 have qk4 : (e.k == 4) = true := beq_iff_eq.2 hk
 rw [hx] at hi ht
 have i5 : (x.f0.f2 == 5) = true := beq_iff_eq.2 (hi)
 have t5 : decide (e.t ≥ x.f1) = true := decide_eq_true (ht)
 obtain ⟨⟨⟨clk1, L1⟩, k1⟩, hp⟩ : ∃ p, rdoF b.m e = p := ⟨_, rfl⟩
 have CD : Aside0 (∀ W, Rh B w W b A0 c0 (some ⟨g, 0, none⟩) c nw e → Calls Try.prog 45 #[.agg #[.int .i64 b.m.clk, .slice A0 b.m.L.length c0], .agg (evA e)] W fun r w' => ∃ A1 c1, r = .returned (.tuple #[.agg #[.int .i64 clk1, .slice A1 L1.length c1], .int .i64 k1]) ∧ KR w' B (.slice A1 L1.length c1) L1 ∧ Below W.heap.size W w') := ⟨fun W hW => do_lit (w := w) b.m A0 c0 e hn nd (Nat.le_trans hB hW.below.size) hW.kr hp⟩
 rw [hp] at hz HF
 have hzz : k1 = 0 := hz
 have kz : (k1 != 0) = false := by rw [hzz]; rfl
 have CR := Aside0.mk (fun W => rright_run e W)
 rw [hr] at CR
 have HN := Aside0.mk hn
 have HND := Aside0.mk nd
 have HB := Aside0.mk hB
 have HNW := Aside0.mk hnw
 have HLEN := Aside0.mk hlen
 have HRT := Aside0.mk hr
 have HJ := Aside0.mk (Rh.start hkr hkw hlen e)
 clear hn nd hB hkr hkw hlen hnw hr hwl hk hi ht hz
 have hcb := fun i => blk_cell HJ.out.b_ i
 have hce := fun i => blk_cell HJ.out.e_ i
 have hlb := blk_lt HJ.out.b_
 have hle := blk_lt HJ.out.e_
 have hlr := blk_lt HJ.out.r
 go_enter Try.func28, Try.ntmps28
 clear hp hzz
 clear hx h0
 go_upto_region 8 with (first | (go_at_call 62; (with_reducible refine (CR.out _).mono ?_); rintro r w2 ⟨rfl, hb⟩; have HJ2 := Aside0.mk (HJ.out.step hb); clear hcb hce hlb hle hlr HJ; have HJ := HJ2; clear HJ2; have hcb := fun i => blk_cell HJ.out.b_ i; have hce := fun i => blk_cell HJ.out.e_ i; have hlb := blk_lt HJ.out.b_; have hle := blk_lt HJ.out.e_; have hlr := blk_lt HJ.out.r; clear hb) | ((with_reducible refine Go.Proofs.Ythniclbmpeklmaa.Ev.gate_load (t := 66) (p := 43) rfl ?_); go_loud (refine wpList_load_at rfl 66 _ rfl g (e.wk.toNat * 26) ?hx (wA x) _ ?hc hu3 rfl (wA_info x) ?_; (case hx => rfl); (case hc => obtain ⟨g2, q, _, q2⟩ := work_at HJ.out.len HJ.out.kw HW0.out HWL.out; rw [HXX.out] at q2; obtain rfl : g = g2 := (by injection q with q; injection q); exact q2))) | ((with_reducible refine gate_store (t := 66) (p := 8) rfl ?_); go_loud (refine wpList_store_row rfl 66 _ _ rfl (w2.heap.size) (wA x) rfl rfl 66 _ (blk_new w2 (.cells #[.int .i64 0, .int .i64 0, .int .i64 0, .int .i64 0, .int .i64 0, .int .i64 0, .int .i64 0, .int .i64 0, .int .i64 0, .int .i64 0, .bool false, .int .i64 0, .int .i64 0, .bool false, .int .i64 0, .int .i64 0, .int .i64 0, .int .i64 0, .int .i64 0, .int .i64 0, .int .i64 0, .int .i64 0, .int .i64 0, .int .i64 0, .bool false, .int .i64 0] 66)) (wA_info x) rfl (wA_one x) ?_; have HX := Aside0.mk (show Rx B w _ b A0 c0 (some ⟨g, 0, none⟩) c nw e w2.heap.size (wA x) from ⟨(HJ.out.newrow #[.int .i64 0, .int .i64 0, .int .i64 0, .int .i64 0, .int .i64 0, .int .i64 0, .int .i64 0, .int .i64 0, .int .i64 0, .int .i64 0, .bool false, .int .i64 0, .int .i64 0, .bool false, .int .i64 0, .int .i64 0, .int .i64 0, .int .i64 0, .int .i64 0, .int .i64 0, .int .i64 0, .int .i64 0, .int .i64 0, .int .i64 0, .bool false, .int .i64 0] (wA x) 66).1, (HJ.out.newrow #[.int .i64 0, .int .i64 0, .int .i64 0, .int .i64 0, .int .i64 0, .int .i64 0, .int .i64 0, .int .i64 0, .int .i64 0, .int .i64 0, .bool false, .int .i64 0, .int .i64 0, .bool false, .int .i64 0, .int .i64 0, .int .i64 0, .int .i64 0, .int .i64 0, .int .i64 0, .int .i64 0, .int .i64 0, .int .i64 0, .int .i64 0, .bool false, .int .i64 0] (wA x) 66).2, blk_lt HJ.out.r, own_ne HJ.out.len HJ.out.kw HW0.out HWL.out⟩); clear hcb hce hlb hle hlr HJ)))
 refine gen_world' (fun W => Rx B w W b A0 c0 (some ⟨g, 0, none⟩) c nw e w2.heap.size (wA x)) (by exact HX.out) fun W3 H3 => ?_
 have HX := Aside0.mk H3
 clear H3 p0 q0
 have hcb := fun i => blk_cell HX.out.rh.b_ i
 have hce := fun i => blk_cell HX.out.rh.e_ i
 have hlb := blk_lt HX.out.rh.b_
 have hle := blk_lt HX.out.rh.e_
 have hlr := blk_lt HX.out.rh.r
 have hcx := fun i => (show World.cell? _ ⟨w2.heap.size, i, none⟩ = (#[.int .i64 x.f0.f0, .int .i64 x.f0.f1, .int .i64 x.f0.f2, .int .i64 x.f0.f3.f0, .int .i64 x.f0.f3.f1, .int .i64 x.f0.f4.f0, .int .i64 x.f0.f4.f1, .int .i64 x.f0.f5, .int .i64 x.f0.f6, .int .i64 x.f0.f7, .bool x.f0.f8, .int .i64 x.f0.f9, .int .i64 x.f1, .bool x.f2, .int .i64 x.f3.f0, .int .i64 x.f3.f1, .int .i64 x.f3.f2, .int .i64 x.f3.f3.f0, .int .i64 x.f3.f3.f1, .int .i64 x.f3.f4.f0, .int .i64 x.f3.f4.f1, .int .i64 x.f3.f5, .int .i64 x.f3.f6, .int .i64 x.f3.f7, .bool x.f3.f8, .int .i64 x.f3.f9] : Array Value)[i]? from blk_cell HX.out.x_ i)
 have hlx := blk_lt HX.out.x_
 go_wp2_with (first | (go_at_call 45; go_loud ((with_reducible refine (CD.out _ HX.out.rh).mono ?_); rintro r w5 ⟨A1, c1, rfl, hk1, hb⟩; have HX2 := Aside0.mk (HX.out.step hb); clear hcb hce hlb hle hlr hcx hlx HX; have HX := HX2; clear HX2; have hcb := fun i => blk_cell HX.out.rh.b_ i; have hce := fun i => blk_cell HX.out.rh.e_ i; have hlb := blk_lt HX.out.rh.b_; have hle := blk_lt HX.out.rh.e_; have hlr := blk_lt HX.out.rh.r; have hcx := fun i => (show World.cell? _ ⟨w2.heap.size, i, none⟩ = (#[.int .i64 x.f0.f0, .int .i64 x.f0.f1, .int .i64 x.f0.f2, .int .i64 x.f0.f3.f0, .int .i64 x.f0.f3.f1, .int .i64 x.f0.f4.f0, .int .i64 x.f0.f4.f1, .int .i64 x.f0.f5, .int .i64 x.f0.f6, .int .i64 x.f0.f7, .bool x.f0.f8, .int .i64 x.f0.f9, .int .i64 x.f1, .bool x.f2, .int .i64 x.f3.f0, .int .i64 x.f3.f1, .int .i64 x.f3.f2, .int .i64 x.f3.f3.f0, .int .i64 x.f3.f3.f1, .int .i64 x.f3.f4.f0, .int .i64 x.f3.f4.f1, .int .i64 x.f3.f5, .int .i64 x.f3.f6, .int .i64 x.f3.f7, .bool x.f3.f8, .int .i64 x.f3.f9] : Array Value)[i]? from blk_cell HX.out.x_ i); have hlx := blk_lt HX.out.x_; have HK1 := Aside0.mk hk1; clear hb hk1)) | ((with_reducible refine gate_store (t := 43) (p := 11) rfl ?_); go_loud (refine wpList_store_row rfl 43 _ _ rfl (w5.heap.size) #[.int .i64 clk1, .slice A1 L1.length c1] rfl rfl 43 _ (blk_new w5 (.cells #[.int .i64 0, .slice none 0 0] 43)) (by kernel_rfl) rfl (by simp [Value.oneCell']) ?_; have HT := Aside0.mk (HX.out.newrow #[.int .i64 0, .slice none 0 0] #[.int .i64 clk1, .slice A1 L1.length c1] 43).2; have HK2 := Aside0.mk (KR.keep (Kd.R_below HK1.out (below_alloc (Below.refl _ _) (.cells #[.int .i64 0, .slice none 0 0] 43))) (W1 := (w5.alloc (.cells #[.int .i64 0, .slice none 0 0] 43)).setRow w5.heap.size #[.int .i64 clk1, .slice A1 L1.length c1]) (fun g cs hg => setRow_other _ _ g _ (types_ne hg (blk_new w5 _) (by decide)))); clear HK1; have HK1 := HK2; clear HK2; have hct := fun i => blk_cell HT.out i; have hlt := blk_lt HT.out; have HX2 := Aside0.mk ((HX.out.newrow #[.int .i64 0, .slice none 0 0] #[.int .i64 clk1, .slice A1 L1.length c1] 43).1); clear hcb hce hlb hle hlr hcx hlx HX; have HX := HX2; clear HX2; have hcb := fun i => blk_cell HX.out.rh.b_ i; have hce := fun i => blk_cell HX.out.rh.e_ i; have hlb := blk_lt HX.out.rh.b_; have hle := blk_lt HX.out.rh.e_; have hlr := blk_lt HX.out.rh.r; have hcx := fun i => (show World.cell? _ ⟨w2.heap.size, i, none⟩ = (#[.int .i64 x.f0.f0, .int .i64 x.f0.f1, .int .i64 x.f0.f2, .int .i64 x.f0.f3.f0, .int .i64 x.f0.f3.f1, .int .i64 x.f0.f4.f0, .int .i64 x.f0.f4.f1, .int .i64 x.f0.f5, .int .i64 x.f0.f6, .int .i64 x.f0.f7, .bool x.f0.f8, .int .i64 x.f0.f9, .int .i64 x.f1, .bool x.f2, .int .i64 x.f3.f0, .int .i64 x.f3.f1, .int .i64 x.f3.f2, .int .i64 x.f3.f3.f0, .int .i64 x.f3.f3.f1, .int .i64 x.f3.f4.f0, .int .i64 x.f3.f4.f1, .int .i64 x.f3.f5, .int .i64 x.f3.f6, .int .i64 x.f3.f7, .bool x.f3.f8, .int .i64 x.f3.f9] : Array Value)[i]? from blk_cell HX.out.x_ i); have hlx := blk_lt HX.out.x_)) | ((with_reducible refine gate_store (t := 43) (p := 140) rfl ?_); go_loud (refine wpList_store_new rfl 43 _ _ rfl (w.heap.size) 0 #[.int .i64 clk1, .slice A1 L1.length c1] #[.int .i64 clk1, .slice A1 L1.length c1, .slice (some ⟨g, 0, none⟩) nw c] rfl rfl 46 _ HX.out.rh.b_ (by kernel_rfl) (by simp) (by simp [Value.oneCell']) rfl ?_; clear hct hlt HT; have HX2 := Aside0.mk (HX.out.put (m1 := ⟨clk1, L1⟩) HK1.out); clear hcb hce hlb hle hlr hcx hlx HX; have HX := HX2; clear HX2; have hcb := fun i => blk_cell HX.out.rh.b_ i; have hce := fun i => blk_cell HX.out.rh.e_ i; have hlb := blk_lt HX.out.rh.b_; have hle := blk_lt HX.out.rh.e_; have hlr := blk_lt HX.out.rh.r; have hcx := fun i => (show World.cell? _ ⟨w2.heap.size, i, none⟩ = (#[.int .i64 x.f0.f0, .int .i64 x.f0.f1, .int .i64 x.f0.f2, .int .i64 x.f0.f3.f0, .int .i64 x.f0.f3.f1, .int .i64 x.f0.f4.f0, .int .i64 x.f0.f4.f1, .int .i64 x.f0.f5, .int .i64 x.f0.f6, .int .i64 x.f0.f7, .bool x.f0.f8, .int .i64 x.f0.f9, .int .i64 x.f1, .bool x.f2, .int .i64 x.f3.f0, .int .i64 x.f3.f1, .int .i64 x.f3.f2, .int .i64 x.f3.f3.f0, .int .i64 x.f3.f3.f1, .int .i64 x.f3.f4.f0, .int .i64 x.f3.f4.f1, .int .i64 x.f3.f5, .int .i64 x.f3.f6, .int .i64 x.f3.f7, .bool x.f3.f8, .int .i64 x.f3.f9] : Array Value)[i]? from blk_cell HX.out.x_ i); have hlx := blk_lt HX.out.x_)) | ((with_reducible refine gate_store (t := 46) (p := 4) rfl ?_); go_loud (refine wpList_store_row rfl 46 _ _ rfl (w.heap.size + 1 + 1) #[.int .i64 clk1, .slice A1 L1.length c1, .slice (some ⟨g, 0, none⟩) nw c] rfl rfl 46 _ HX.out.rh.r (by kernel_rfl) rfl (by simp [Value.oneCell']) ?_; have HFIN := Aside0.mk (HX.out.rh.fin #[.int .i64 clk1, .slice A1 L1.length c1, .slice (some ⟨g, 0, none⟩) nw c] HX.out.rh.kr HX.out.rh.kw))))
 obtain ⟨hr9, hk9, hw9, hb9⟩ := HFIN.out
 unfold RhPost
 rw [HF.out]
 refine bodyPost_ret (v := .tuple #[.agg #[.int .i64 clk1, .slice A1 L1.length c1, .slice (some ⟨g, 0, none⟩) nw c], .int .i64 0]) ?_ rfl ⟨A1, c1, some ⟨g, 0, none⟩, c, rfl, hk9, hw9, hb9, HLEN.out⟩
 have hrow := run_loadVar_row (P := Try.prog) _ (w.heap.size + 1 + 1) 46 46 _ (0, 0) _ hr9 hu0 rfl (by kernel_rfl)
 simp [results, Try.results28, asAddr, hrow]
theorem rhear_point {w : World} {B : Nat} (b : Rb) (A0 : Option Addr) (c0 : Nat) (A : Option Addr) (c nw : Nat) (e : Au.Ev) (hn : b.m.L.length ≤ 90000) (nd : (b.m.L.map S127.h).Nodup) (hB : B ≤ w.heap.size) (hkr : KR w B (.slice A0 b.m.L.length c0) b.m.L) (hkw : KW w B (.slice A nw c) b.W) (hlen : b.W.length = nw) (hnw : nw ≤ 64) (hr : rightJ e = true) (hwl : e.wk < (nw : Int)) (hk : e.k = 3) (hpt : rptOk b.m.clk (rd_T66 b.W e.wk) e = true) (hxb : 0 ≤ (rd_T66 b.W e.wk).f1 ∧ (rd_T66 b.W e.wk).f1 ≤ 1000000) (hclk : b.m.clk ≤ 1000000) (htm : e.t ≤ 9223372036854775807) (hz : (rdoF b.m e).2 = 0) :
  Calls Try.prog 28 #[.agg #[.int .i64 b.m.clk, .slice A0 b.m.L.length c0, .slice A nw c], .agg (evA e)] w (RhPost B w nw (rhearF b e)) := by
 have hu0 := Try.underlying46
 have hu1 := Try.underlying36
 have hu2 := Try.underlying50
 have hu3 := Try.underlying66
 have hu4 := Try.underlying43
 have hu5 := Try.underlying44
 have HF := Aside0.mk (show rhearF b e = (⟨(rdoF b.m e).1, b.W.set e.wk.toNat { rd_T66 b.W e.wk with f2 := true, f3 := ofE e }⟩, 0) by unfold rhearF; rw [if_neg (by rw [hr, hlen]; simp; omega), if_neg (show ¬ e.k = 1 by omega), if_neg (show ¬ e.k = 2 by omega), if_pos hk]; rw [if_pos hpt]; unfold rcan; rw [if_pos hz, if_pos hk])
 have h0 := right_wk hr
 have HW0 := Aside0.mk h0
 obtain ⟨g, rfl, _, _⟩ := work_at hlen hkw h0 hwl
 obtain ⟨x, hx⟩ : ∃ x, rd_T66 b.W e.wk = x := ⟨_, rfl⟩
 have HXX := Aside0.mk hx
 have p0 : (0 ≤ e.wk) = True := eq_true h0
 have q0 : (e.wk < (nw : Int)) = True := eq_true hwl
 have d0 : decide (e.wk ≥ (nw : Int)) = false := decide_eq_false (by omega)
 have HWL := Aside0.mk hwl
 have qk1 : (e.k == 1) = false := beq_eq_false_iff_ne.2 (by omega)
 have qk2 : (e.k == 2) = false := beq_eq_false_iff_ne.2 (by omega)
 have qk3 : (e.k == 3) = true := beq_iff_eq.2 hk
 have qk4 : (e.k == 4) = false := beq_eq_false_iff_ne.2 (by omega)
 rw [hx] at hpt hxb HF
 have CP : Aside0 (∀ W, Rh B w W b A0 c0 (some ⟨g, 0, none⟩) c nw e → Calls Try.prog 64 #[.agg #[.int .i64 b.m.clk, .slice A0 b.m.L.length c0, .slice (some ⟨g, 0, none⟩) nw c], .agg (wA x), .agg (evA e)] W fun r w' => r = .returned (.bool true) ∧ Below W.heap.size W w') := ⟨fun W hW => by have q := rpoint_any b.m.clk A0 c0 b.m.L (some ⟨g, 0, none⟩) c b.W x e hW.kr (by rw [hlen]; exact hW.kw) hr hk hxb.1 hxb.2 hclk htm; rw [hlen, hpt] at q; exact q⟩
 obtain ⟨⟨⟨clk1, L1⟩, k1⟩, hp⟩ : ∃ p, rdoF b.m e = p := ⟨_, rfl⟩
 have CD : Aside0 (∀ W, Rh B w W b A0 c0 (some ⟨g, 0, none⟩) c nw e → Calls Try.prog 45 #[.agg #[.int .i64 b.m.clk, .slice A0 b.m.L.length c0], .agg (evA e)] W fun r w' => ∃ A1 c1, r = .returned (.tuple #[.agg #[.int .i64 clk1, .slice A1 L1.length c1], .int .i64 k1]) ∧ KR w' B (.slice A1 L1.length c1) L1 ∧ Below W.heap.size W w') := ⟨fun W hW => do_lit (w := w) b.m A0 c0 e hn nd (Nat.le_trans hB hW.below.size) hW.kr hp⟩
 have CW : Aside0 (∀ A1 c1 W, Rh B w W ⟨⟨clk1, L1⟩, b.W⟩ A1 c1 (some ⟨g, 0, none⟩) c nw e → Calls Try.prog 63 #[.agg #[.int .i64 clk1, .slice A1 L1.length c1, .slice (some ⟨g, 0, none⟩) nw c], .int .i64 e.wk, .agg (wA ⟨x.f0, x.f1, true, ofE e⟩)] W fun r w' => ∃ A2 c2, r = .returned (.agg #[.int .i64 clk1, .slice A1 L1.length c1, .slice A2 nw c2]) ∧ KW w' B (.slice A2 nw c2) (b.W.set e.wk.toNat ⟨x.f0, x.f1, true, ofE e⟩) ∧ Below W.heap.size W w') := ⟨fun A1 c1 W hW => with_lit clk1 A1 _ c1 (some ⟨g, 0, none⟩) c nw b.W hlen e.wk h0 hwl hnw ⟨x.f0, x.f1, true, ofE e⟩ hW.kw (Nat.le_trans hB hW.below.size)⟩
 rw [hp] at hz HF
 have hzz : k1 = 0 := hz
 have kz : (k1 != 0) = false := by rw [hzz]; rfl
 have CR := Aside0.mk (fun W => rright_run e W)
 rw [hr] at CR
 have HN := Aside0.mk hn
 have HND := Aside0.mk nd
 have HB := Aside0.mk hB
 have HNW := Aside0.mk hnw
 have HLEN := Aside0.mk hlen
 have HRT := Aside0.mk hr
 have HJ := Aside0.mk (Rh.start hkr hkw hlen e)
 clear hn nd hB hkr hkw hlen hnw hr hwl hk hpt hxb hclk htm hz
 have hcb := fun i => blk_cell HJ.out.b_ i
 have hce := fun i => blk_cell HJ.out.e_ i
 have hlb := blk_lt HJ.out.b_
 have hle := blk_lt HJ.out.e_
 have hlr := blk_lt HJ.out.r
 go_enter Try.func28, Try.ntmps28
 clear hp hzz
 clear hx h0
 go_upto_region 8 with (first | (go_at_call 62; (with_reducible refine (CR.out _).mono ?_); rintro r w2 ⟨rfl, hb⟩; have HJ2 := Aside0.mk (HJ.out.step hb); clear hcb hce hlb hle hlr HJ; have HJ := HJ2; clear HJ2; have hcb := fun i => blk_cell HJ.out.b_ i; have hce := fun i => blk_cell HJ.out.e_ i; have hlb := blk_lt HJ.out.b_; have hle := blk_lt HJ.out.e_; have hlr := blk_lt HJ.out.r; clear hb) | ((with_reducible refine Go.Proofs.Ythniclbmpeklmaa.Ev.gate_load (t := 66) (p := 43) rfl ?_); go_loud (refine wpList_load_at rfl 66 _ rfl g (e.wk.toNat * 26) ?hx (wA x) _ ?hc hu3 rfl (wA_info x) ?_; (case hx => rfl); (case hc => obtain ⟨g2, q, _, q2⟩ := work_at HJ.out.len HJ.out.kw HW0.out HWL.out; rw [HXX.out] at q2; obtain rfl : g = g2 := (by injection q with q; injection q); exact q2))) | ((with_reducible refine gate_store (t := 66) (p := 8) rfl ?_); go_loud (refine wpList_store_row rfl 66 _ _ rfl (w2.heap.size) (wA x) rfl rfl 66 _ (blk_new w2 (.cells #[.int .i64 0, .int .i64 0, .int .i64 0, .int .i64 0, .int .i64 0, .int .i64 0, .int .i64 0, .int .i64 0, .int .i64 0, .int .i64 0, .bool false, .int .i64 0, .int .i64 0, .bool false, .int .i64 0, .int .i64 0, .int .i64 0, .int .i64 0, .int .i64 0, .int .i64 0, .int .i64 0, .int .i64 0, .int .i64 0, .int .i64 0, .bool false, .int .i64 0] 66)) (wA_info x) rfl (wA_one x) ?_; have HX := Aside0.mk (show Rx B w _ b A0 c0 (some ⟨g, 0, none⟩) c nw e w2.heap.size (wA x) from ⟨(HJ.out.newrow #[.int .i64 0, .int .i64 0, .int .i64 0, .int .i64 0, .int .i64 0, .int .i64 0, .int .i64 0, .int .i64 0, .int .i64 0, .int .i64 0, .bool false, .int .i64 0, .int .i64 0, .bool false, .int .i64 0, .int .i64 0, .int .i64 0, .int .i64 0, .int .i64 0, .int .i64 0, .int .i64 0, .int .i64 0, .int .i64 0, .int .i64 0, .bool false, .int .i64 0] (wA x) 66).1, (HJ.out.newrow #[.int .i64 0, .int .i64 0, .int .i64 0, .int .i64 0, .int .i64 0, .int .i64 0, .int .i64 0, .int .i64 0, .int .i64 0, .int .i64 0, .bool false, .int .i64 0, .int .i64 0, .bool false, .int .i64 0, .int .i64 0, .int .i64 0, .int .i64 0, .int .i64 0, .int .i64 0, .int .i64 0, .int .i64 0, .int .i64 0, .int .i64 0, .bool false, .int .i64 0] (wA x) 66).2, blk_lt HJ.out.r, own_ne HJ.out.len HJ.out.kw HW0.out HWL.out⟩); clear hcb hce hlb hle hlr HJ)))
 refine gen_world' (fun W => Rx B w W b A0 c0 (some ⟨g, 0, none⟩) c nw e w2.heap.size (wA x)) (by exact HX.out) fun W3 H3 => ?_
 have HX := Aside0.mk H3
 clear H3 p0 q0
 have hcb := fun i => blk_cell HX.out.rh.b_ i
 have hce := fun i => blk_cell HX.out.rh.e_ i
 have hlb := blk_lt HX.out.rh.b_
 have hle := blk_lt HX.out.rh.e_
 have hlr := blk_lt HX.out.rh.r
 have hcx := fun i => (show World.cell? _ ⟨w2.heap.size, i, none⟩ = (#[.int .i64 x.f0.f0, .int .i64 x.f0.f1, .int .i64 x.f0.f2, .int .i64 x.f0.f3.f0, .int .i64 x.f0.f3.f1, .int .i64 x.f0.f4.f0, .int .i64 x.f0.f4.f1, .int .i64 x.f0.f5, .int .i64 x.f0.f6, .int .i64 x.f0.f7, .bool x.f0.f8, .int .i64 x.f0.f9, .int .i64 x.f1, .bool x.f2, .int .i64 x.f3.f0, .int .i64 x.f3.f1, .int .i64 x.f3.f2, .int .i64 x.f3.f3.f0, .int .i64 x.f3.f3.f1, .int .i64 x.f3.f4.f0, .int .i64 x.f3.f4.f1, .int .i64 x.f3.f5, .int .i64 x.f3.f6, .int .i64 x.f3.f7, .bool x.f3.f8, .int .i64 x.f3.f9] : Array Value)[i]? from blk_cell HX.out.x_ i)
 have hlx := blk_lt HX.out.x_
 go_upto_region 29 with (first | ((with_reducible refine Go.Proofs.Ythniclbmpeklmaa.Ev.gate_load (t := 66) (p := 8) rfl ?_); go_loud (refine wpList_load_row rfl 66 _ rfl (w2.heap.size) rfl 66 (wA x) (0, 0) _ HX.out.x_ hu3 rfl (wA_info _) ?_)) | (go_at_call 64; go_loud ((with_reducible refine (CP.out _ HX.out.rh).mono ?_); rintro r w4 ⟨rfl, hb⟩; have HX2 := Aside0.mk (HX.out.step hb); clear hcb hce hlb hle hlr hcx hlx HX; have HX := HX2; clear HX2; have hcb := fun i => blk_cell HX.out.rh.b_ i; have hce := fun i => blk_cell HX.out.rh.e_ i; have hlb := blk_lt HX.out.rh.b_; have hle := blk_lt HX.out.rh.e_; have hlr := blk_lt HX.out.rh.r; have hcx := fun i => (show World.cell? _ ⟨w2.heap.size, i, none⟩ = (#[.int .i64 x.f0.f0, .int .i64 x.f0.f1, .int .i64 x.f0.f2, .int .i64 x.f0.f3.f0, .int .i64 x.f0.f3.f1, .int .i64 x.f0.f4.f0, .int .i64 x.f0.f4.f1, .int .i64 x.f0.f5, .int .i64 x.f0.f6, .int .i64 x.f0.f7, .bool x.f0.f8, .int .i64 x.f0.f9, .int .i64 x.f1, .bool x.f2, .int .i64 x.f3.f0, .int .i64 x.f3.f1, .int .i64 x.f3.f2, .int .i64 x.f3.f3.f0, .int .i64 x.f3.f3.f1, .int .i64 x.f3.f4.f0, .int .i64 x.f3.f4.f1, .int .i64 x.f3.f5, .int .i64 x.f3.f6, .int .i64 x.f3.f7, .bool x.f3.f8, .int .i64 x.f3.f9] : Array Value)[i]? from blk_cell HX.out.x_ i); have hlx := blk_lt HX.out.x_; clear hb)) | (go_at_call 45; go_loud ((with_reducible refine (CD.out _ HX.out.rh).mono ?_); rintro r w5 ⟨A1, c1, rfl, hk1, hb⟩; have HX2 := Aside0.mk (HX.out.step hb); clear hcb hce hlb hle hlr hcx hlx HX; have HX := HX2; clear HX2; have hcb := fun i => blk_cell HX.out.rh.b_ i; have hce := fun i => blk_cell HX.out.rh.e_ i; have hlb := blk_lt HX.out.rh.b_; have hle := blk_lt HX.out.rh.e_; have hlr := blk_lt HX.out.rh.r; have hcx := fun i => (show World.cell? _ ⟨w2.heap.size, i, none⟩ = (#[.int .i64 x.f0.f0, .int .i64 x.f0.f1, .int .i64 x.f0.f2, .int .i64 x.f0.f3.f0, .int .i64 x.f0.f3.f1, .int .i64 x.f0.f4.f0, .int .i64 x.f0.f4.f1, .int .i64 x.f0.f5, .int .i64 x.f0.f6, .int .i64 x.f0.f7, .bool x.f0.f8, .int .i64 x.f0.f9, .int .i64 x.f1, .bool x.f2, .int .i64 x.f3.f0, .int .i64 x.f3.f1, .int .i64 x.f3.f2, .int .i64 x.f3.f3.f0, .int .i64 x.f3.f3.f1, .int .i64 x.f3.f4.f0, .int .i64 x.f3.f4.f1, .int .i64 x.f3.f5, .int .i64 x.f3.f6, .int .i64 x.f3.f7, .bool x.f3.f8, .int .i64 x.f3.f9] : Array Value)[i]? from blk_cell HX.out.x_ i); have hlx := blk_lt HX.out.x_; have HK1 := Aside0.mk hk1; clear hb hk1)) | ((with_reducible refine gate_store (t := 43) (p := 11) rfl ?_); go_loud (refine wpList_store_row rfl 43 _ _ rfl (w5.heap.size) #[.int .i64 clk1, .slice A1 L1.length c1] rfl rfl 43 _ (blk_new w5 (.cells #[.int .i64 0, .slice none 0 0] 43)) (by kernel_rfl) rfl (by simp [Value.oneCell']) ?_; have HT := Aside0.mk (HX.out.newrow #[.int .i64 0, .slice none 0 0] #[.int .i64 clk1, .slice A1 L1.length c1] 43).2; have HK2 := Aside0.mk (KR.keep (Kd.R_below HK1.out (below_alloc (Below.refl _ _) (.cells #[.int .i64 0, .slice none 0 0] 43))) (W1 := (w5.alloc (.cells #[.int .i64 0, .slice none 0 0] 43)).setRow w5.heap.size #[.int .i64 clk1, .slice A1 L1.length c1]) (fun g cs hg => setRow_other _ _ g _ (types_ne hg (blk_new w5 _) (by decide)))); clear HK1; have HK1 := HK2; clear HK2; have hct := fun i => blk_cell HT.out i; have hlt := blk_lt HT.out; have HX2 := Aside0.mk ((HX.out.newrow #[.int .i64 0, .slice none 0 0] #[.int .i64 clk1, .slice A1 L1.length c1] 43).1); clear hcb hce hlb hle hlr hcx hlx HX; have HX := HX2; clear HX2; have hcb := fun i => blk_cell HX.out.rh.b_ i; have hce := fun i => blk_cell HX.out.rh.e_ i; have hlb := blk_lt HX.out.rh.b_; have hle := blk_lt HX.out.rh.e_; have hlr := blk_lt HX.out.rh.r; have hcx := fun i => (show World.cell? _ ⟨w2.heap.size, i, none⟩ = (#[.int .i64 x.f0.f0, .int .i64 x.f0.f1, .int .i64 x.f0.f2, .int .i64 x.f0.f3.f0, .int .i64 x.f0.f3.f1, .int .i64 x.f0.f4.f0, .int .i64 x.f0.f4.f1, .int .i64 x.f0.f5, .int .i64 x.f0.f6, .int .i64 x.f0.f7, .bool x.f0.f8, .int .i64 x.f0.f9, .int .i64 x.f1, .bool x.f2, .int .i64 x.f3.f0, .int .i64 x.f3.f1, .int .i64 x.f3.f2, .int .i64 x.f3.f3.f0, .int .i64 x.f3.f3.f1, .int .i64 x.f3.f4.f0, .int .i64 x.f3.f4.f1, .int .i64 x.f3.f5, .int .i64 x.f3.f6, .int .i64 x.f3.f7, .bool x.f3.f8, .int .i64 x.f3.f9] : Array Value)[i]? from blk_cell HX.out.x_ i); have hlx := blk_lt HX.out.x_)) | ((with_reducible refine gate_store (t := 43) (p := 140) rfl ?_); go_loud (refine wpList_store_new rfl 43 _ _ rfl (w.heap.size) 0 #[.int .i64 clk1, .slice A1 L1.length c1] #[.int .i64 clk1, .slice A1 L1.length c1, .slice (some ⟨g, 0, none⟩) nw c] rfl rfl 46 _ HX.out.rh.b_ (by kernel_rfl) (by simp) (by simp [Value.oneCell']) rfl ?_; clear hct hlt HT; have HX2 := Aside0.mk (HX.out.put (m1 := ⟨clk1, L1⟩) HK1.out); clear hcb hce hlb hle hlr hcx hlx HX; have HX := HX2; clear HX2; have hcb := fun i => blk_cell HX.out.rh.b_ i; have hce := fun i => blk_cell HX.out.rh.e_ i; have hlb := blk_lt HX.out.rh.b_; have hle := blk_lt HX.out.rh.e_; have hlr := blk_lt HX.out.rh.r; have hcx := fun i => (show World.cell? _ ⟨w2.heap.size, i, none⟩ = (#[.int .i64 x.f0.f0, .int .i64 x.f0.f1, .int .i64 x.f0.f2, .int .i64 x.f0.f3.f0, .int .i64 x.f0.f3.f1, .int .i64 x.f0.f4.f0, .int .i64 x.f0.f4.f1, .int .i64 x.f0.f5, .int .i64 x.f0.f6, .int .i64 x.f0.f7, .bool x.f0.f8, .int .i64 x.f0.f9, .int .i64 x.f1, .bool x.f2, .int .i64 x.f3.f0, .int .i64 x.f3.f1, .int .i64 x.f3.f2, .int .i64 x.f3.f3.f0, .int .i64 x.f3.f3.f1, .int .i64 x.f3.f4.f0, .int .i64 x.f3.f4.f1, .int .i64 x.f3.f5, .int .i64 x.f3.f6, .int .i64 x.f3.f7, .bool x.f3.f8, .int .i64 x.f3.f9] : Array Value)[i]? from blk_cell HX.out.x_ i); have hlx := blk_lt HX.out.x_)))
 have hfx := fun i => blk_frozen HX.out.x_ i
 go_upto_region 30 with (fail)
 have HX2 := Aside0.mk (HX.out.mark 13 (.bool true) (cs1 := wA ⟨x.f0, x.f1, true, x.f3⟩) rfl)
 clear hcx hlx hfx hcb hce hlb hle hlr HX
 have HX := HX2
 clear HX2
 have hcb := fun i => blk_cell HX.out.rh.b_ i
 have hce := fun i => blk_cell HX.out.rh.e_ i
 have hlb := blk_lt HX.out.rh.b_
 have hle := blk_lt HX.out.rh.e_
 have hlr := blk_lt HX.out.rh.r
 go_wp2_with (first | ((with_reducible refine gate_store (t := 50) (p := 146) rfl ?_); go_loud (refine wpList_store_new rfl 50 _ _ rfl (w2.heap.size) 14 (evA e) (wA ⟨x.f0, x.f1, true, ofE e⟩) rfl rfl 66 (wA ⟨x.f0, x.f1, true, x.f3⟩) HX.out.x_ (by kernel_rfl) (by rw [wA_size]; show 14 + 12 ≤ 26; omega) (by simp [Value.oneCell']) rfl ?_; have HX2 := Aside0.mk (HX.out.row (wA ⟨x.f0, x.f1, true, ofE e⟩)); clear hcb hce hlb hle hlr HX; have HX := HX2; clear HX2; have hcb := fun i => blk_cell HX.out.rh.b_ i; have hce := fun i => blk_cell HX.out.rh.e_ i; have hlb := blk_lt HX.out.rh.b_; have hle := blk_lt HX.out.rh.e_; have hlr := blk_lt HX.out.rh.r)) | ((with_reducible refine Go.Proofs.Ythniclbmpeklmaa.Ev.gate_load (t := 66) (p := 8) rfl ?_); go_loud (refine wpList_load_row rfl 66 _ rfl (w2.heap.size) rfl 66 (wA ⟨x.f0, x.f1, true, ofE e⟩) (0, 0) _ HX.out.x_ hu3 rfl (wA_info _) ?_)) | (go_at_call 63; go_loud ((with_reducible refine (CW.out _ _ _ HX.out.rh).mono ?_); rintro r w6 ⟨A2, c2, rfl, hk2, hb⟩; have HX2 := Aside0.mk (HX.out.step hb); clear hcb hce hlb hle hlr HX; have HX := HX2; clear HX2; have hcb := fun i => blk_cell HX.out.rh.b_ i; have hce := fun i => blk_cell HX.out.rh.e_ i; have hlb := blk_lt HX.out.rh.b_; have hle := blk_lt HX.out.rh.e_; have hlr := blk_lt HX.out.rh.r; have HK2 := Aside0.mk hk2; clear hb hk2)) | ((with_reducible refine gate_store (t := 46) (p := 2) rfl ?_); go_loud (refine wpList_store_row rfl 46 _ _ rfl (w.heap.size) #[.int .i64 clk1, .slice A1 L1.length c1, .slice A2 nw c2] rfl rfl 46 _ HX.out.rh.b_ (by kernel_rfl) rfl (by simp [Value.oneCell']) ?_; have HPUT := Aside0.mk (HX.out.rh.put (b1 := ⟨⟨clk1, L1⟩, b.W.set e.wk.toNat ⟨x.f0, x.f1, true, ofE e⟩⟩) HX.out.rh.kr HK2.out (by rw [List.length_set]; exact HLEN.out)); clear hcb hce hlb hle hlr HX HK2; have hcb := fun i => blk_cell HPUT.out.b_ i; have hce := fun i => blk_cell HPUT.out.e_ i; have hlb := blk_lt HPUT.out.b_; have hle := blk_lt HPUT.out.e_; have hlr := blk_lt HPUT.out.r)) | ((with_reducible refine gate_store (t := 46) (p := 4) rfl ?_); go_loud (refine wpList_store_row rfl 46 _ _ rfl (w.heap.size + 1 + 1) #[.int .i64 clk1, .slice A1 L1.length c1, .slice A2 nw c2] rfl rfl 46 _ HPUT.out.r (by kernel_rfl) rfl (by simp [Value.oneCell']) ?_; have HFIN := Aside0.mk (HPUT.out.fin #[.int .i64 clk1, .slice A1 L1.length c1, .slice A2 nw c2] HPUT.out.kr HPUT.out.kw))))
 obtain ⟨hr9, hk9, hw9, hb9⟩ := HFIN.out
 unfold RhPost
 rw [HF.out]
 refine bodyPost_ret (v := .tuple #[.agg #[.int .i64 clk1, .slice A1 L1.length c1, .slice A2 nw c2], .int .i64 0]) ?_ rfl ⟨A1, c1, A2, c2, rfl, hk9, hw9, hb9, (by rw [List.length_set]; exact HLEN.out)⟩
 have hrow := run_loadVar_row (P := Try.prog) _ (w.heap.size + 1 + 1) 46 46 _ (0, 0) _ hr9 hu0 rfl (by kernel_rfl)
 simp [results, Try.results28, asAddr, hrow]
end Go.Proofs.Ythniclbmpeklmaa.KJf
end
section
namespace Go.Proofs.Ythniclbmpeklmaa.KJf
open Go.RowKit Go.Proofs.YthniclbmpeklmaaW.PrintWords Go.Proofs.YthniclbmpeklmaaW.PrintLast Go.Proofs.YthniclbmpeklmaaW.PrintMore Go.Proofs.Ythniclbmpeklmaa.Ju
open Go.Proofs.Ythniclbmpeklmaa.Au (evA types_ne RowIs)
open Go.Proofs.YthniclbmpeklmaaW.PrintWords renaming Ev → PE
set_option linter.unusedVariables false
set_option linter.unusedSimpArgs false
attribute [local go_sem high] eqA36
theorem rhear_any {w : World} {B : Nat} (b : Rb) (A0 : Option Addr) (c0 : Nat) (A : Option Addr) (c nw : Nat) (e : Au.Ev) (hn : b.m.L.length ≤ 90000) (nd : (b.m.L.map S127.h).Nodup) (hB : B ≤ w.heap.size) (hkr : KR w B (.slice A0 b.m.L.length c0) b.m.L) (hkw : KW w B (.slice A nw c) b.W) (hlen : b.W.length = nw) (hnw : nw ≤ 64) (hbeg : ∀ x ∈ b.W, 0 ≤ x.f1 ∧ x.f1 ≤ 1000000) (hclk : b.m.clk ≤ 1000000) (htm : e.t ≤ 9223372036854775807) :
  Calls Try.prog 28 #[.agg #[.int .i64 b.m.clk, .slice A0 b.m.L.length c0, .slice A nw c], .agg (evA e)] w (RhPost B w nw (rhearF b e)) := by
 cases hr : rightJ e with
 | false => exact rhear_wrong b A0 c0 A c nw e hn nd hB hkr hkw hlen hnw hr
 | true =>
  by_cases hwk : (b.W.length : Int) ≤ e.wk
  ·exact rhear_worker b A0 c0 A c nw e hn nd hB hkr hkw hlen hnw hr hwk
  have hwl : e.wk < (nw : Int) := by omega
  have h0 := right_wk hr
  have hxb : 0 ≤ (rd_T66 b.W e.wk).f1 ∧ (rd_T66 b.W e.wk).f1 ≤ 1000000 := by
   obtain ⟨x, _, hx, hm⟩ := rd_at6 h0 (by omega : e.wk < (b.W.length : Int))
   rw [hx]
   exact hbeg x hm
  rcases right_k hr with hk | hk | hk | hk | hk
  ·exact rhear_tick b A0 c0 A c nw e hn nd hB hkr hkw hlen hnw hr hwl hk
  ·by_cases hi : (rd_T66 b.W e.wk).f0.f2 = 0
   ·exact rhear_invoke b A0 c0 A c nw e hn nd hB hkr hkw hlen hnw hr hwl hk hi
   ·exact rhear_invoke_busy b A0 c0 A c nw e hn nd hB hkr hkw hlen hnw hr hwl hk hi
  ·cases hpt : rptOk b.m.clk (rd_T66 b.W e.wk) e with
   | false => exact rhear_point_no b A0 c0 A c nw e hn nd hB hkr hkw hlen hnw hr hwl hk hpt hxb hclk htm
   | true =>
    by_cases hz : (rdoF b.m e).2 = 0
    ·exact rhear_point b A0 c0 A c nw e hn nd hB hkr hkw hlen hnw hr hwl hk hpt hxb hclk htm hz
    ·exact rhear_point_fail b A0 c0 A c nw e hn nd hB hkr hkw hlen hnw hr hwl hk hpt hxb hclk htm hz
  ·by_cases hi : (rd_T66 b.W e.wk).f0.f2 = 5
   ·by_cases ht : (rd_T66 b.W e.wk).f1 ≤ e.t
    ·by_cases hz : (rdoF b.m e).2 = 0
     ·exact rhear_fire b A0 c0 A c nw e hn nd hB hkr hkw hlen hnw hr hwl hk hi ht hz
     ·exact rhear_fire_fail b A0 c0 A c nw e hn nd hB hkr hkw hlen hnw hr hwl hk hi ht hz
    ·exact rhear_fire_early b A0 c0 A c nw e hn nd hB hkr hkw hlen hnw hr hwl hk hi ht
   ·exact rhear_fire_op b A0 c0 A c nw e hn nd hB hkr hkw hlen hnw hr hwl hk hi
  ·by_cases ho : (rd_T66 b.W e.wk).f0.f2 = e.op
   ·by_cases h4 : e.op ≤ 4
    ·cases hp : (rd_T66 b.W e.wk).f2 with
     | false => exact rhear_back_un b A0 c0 A c nw e hn nd hB hkr hkw hlen hnw hr hwl hk ho h4 hp
     | true =>
      cases hq : ((rd_T66 b.W e.wk).f3.f4.f0 == e.nn && (rd_T66 b.W e.wk).f3.f4.f1 == e.ng) with
      | false => exact rhear_back_new b A0 c0 A c nw e hn nd hB hkr hkw hlen hnw hr hwl hk ho h4 hp hq
      | true =>
       cases hy : ((rd_T66 b.W e.wk).f3.f8 == e.y) with
       | false => exact rhear_back_yes b A0 c0 A c nw e hn nd hB hkr hkw hlen hnw hr hwl hk ho h4 hp hq hy
       | true =>
        cases hz : ((rd_T66 b.W e.wk).f3.f9 == e.er) with
        | false => exact rhear_back_err b A0 c0 A c nw e hn nd hB hkr hkw hlen hnw hr hwl hk ho h4 hp hq hy hz
        | true => exact rhear_back b A0 c0 A c nw e hn nd hB hkr hkw hlen hnw hr hwl hk ho h4 hp hq hy hz
    ·exact rhear_back_hi b A0 c0 A c nw e hn nd hB hkr hkw hlen hnw hr hwl hk ho h4
   ·by_cases h4 : e.op ≤ 4
    ·exact rhear_back_op_lo b A0 c0 A c nw e hn nd hB hkr hkw hlen hnw hr hwl hk ho h4
    ·exact rhear_back_op_hi b A0 c0 A c nw e hn nd hB hkr hkw hlen hnw hr hwl hk ho h4
structure Lr (w W : World) (nb : Nat) (r : Rb) (A0 : Option Addr) (c0 : Nat) (A : Option Addr) (c nw : Nat) : Prop where
 bel : Below w.heap.size w W
 b_ : W.heap[nb]? = some (.cells #[.int .i64 r.m.clk, .slice A0 r.m.L.length c0, .slice A nw c] 46 (0, 0))
 lt : w.heap.size ≤ nb
 kr : KR W w.heap.size (.slice A0 r.m.L.length c0) r.m.L
 kw : KW W w.heap.size (.slice A nw c) r.W
 len : r.W.length = nw
section
variable {w W W1 : World} {nb : Nat} {r : Rb} {A0 : Option Addr} {c0 : Nat} {A : Option Addr} {c nw : Nat}
theorem Lr.step (h : Lr w W nb r A0 c0 A c nw) (hb : Below W.heap.size W W1) : Lr w W1 nb r A0 c0 A c nw := ⟨below_step h.bel hb, blk_below h.b_ hb, h.lt, Kd.R_below h.kr hb, Kd.R_below h.kw hb, h.len⟩
end
theorem new_lit (nw : Nat) (h1 : 1 ≤ nw) (h64 : nw ≤ 64) (w : World) : Calls Try.prog 27 #[.int .i64 nw] w fun r w' => ∃ A0 c0 A c, r = .returned (.tuple #[.agg #[.int .i64 0, .slice A0 0 c0, .slice A nw c], .int .i64 0]) ∧ KR w' w.heap.size (.slice A0 0 c0) [] ∧ KW w' w.heap.size (.slice A nw c) (List.replicate nw z66) ∧ Below w.heap.size w w' := by
 refine (knellref13_New.calls nw 0 [] (List.replicate nw z66) 0 w ?_).mono ?_
 ·unfold knellref13_New.f
  rw [if_neg (by omega), if_neg (by omega), if_pos (by omega), if_pos (by omega), Int.toNat_natCast]
 ·rintro r w' ⟨v1, v2, h0, h2, h3, h4⟩
  obtain ⟨A0, c0, rfl⟩ := Kd.R_slice h2
  obtain ⟨A, c, e⟩ := Kd.R_slice h3
  rw [List.length_replicate] at e
  subst e
  exact ⟨A0, c0, A, c, h0, h2, h3, h4⟩
theorem new_no (n : Int) (hb : n < 1 ∨ 64 < n) (w : World) : Calls Try.prog 27 #[.int .i64 n] w fun r w' => ∃ A0 c0 A c, r = .returned (.tuple #[.agg #[.int .i64 0, .slice A0 0 c0, .slice A 0 c], .int .i64 1]) ∧ Below w.heap.size w w' := by
 refine (knellref13_New.calls n 0 [] [] 1 w ?_).mono ?_
 ·unfold knellref13_New.f
  by_cases h : n < 1
  ·rw [if_pos h]
  ·rw [if_neg h, if_pos (by omega)]
 ·rintro r w' ⟨v1, v2, h0, h2, h3, h4⟩
  obtain ⟨A0, c0, rfl⟩ := Kd.R_slice h2
  obtain ⟨A, c, rfl⟩ := Kd.R_slice h3
  exact ⟨A0, c0, A, c, h0, h4⟩
theorem sim0 (nw : Nat) : BSim 0 (be0 nw) ⟨⟨0, []⟩, List.replicate nw z66⟩ :=
 ⟨by simp [be0], Sim0, fun i x hx => by
  have : x ∈ List.replicate nw z66 := List.mem_of_getElem? hx
  rw [(List.mem_replicate.1 this).2]
  rfl, Int.le_refl _, by simp, by simp, fun x hx => by rw [(List.mem_replicate.1 hx).2]; exact ⟨Int.le_refl _, Int.le_refl _⟩⟩
theorem lr_start {w w2 : World} {A0 A : Option Addr} {c0 c nw : Nat} (hb : Below w.heap.size w w2) (hk : KR w2 w.heap.size (.slice A0 0 c0) []) (hw : KW w2 w.heap.size (.slice A nw c) (List.replicate nw z66)) : Lr w ((w2.alloc (.cells #[.int .i64 0, .slice none 0 0, .slice none 0 0] 46)).setRow w2.heap.size #[.int .i64 0, .slice A0 0 c0, .slice A nw c]) w2.heap.size ⟨⟨0, []⟩, List.replicate nw z66⟩ A0 c0 A c nw := by
 have hb3 : Below w2.heap.size w2 ((w2.alloc (.cells #[.int .i64 0, .slice none 0 0, .slice none 0 0] 46)).setRow w2.heap.size #[.int .i64 0, .slice A0 0 c0, .slice A nw c]) := below_setRow (below_alloc (Below.refl _ _) _) (Nat.le_refl _) _
 exact ⟨below_step hb hb3, setRow_heap _ _ _ _ _ _ (blk_new w2 _), hb.size, Kd.R_below hk hb3, Kd.R_below hw hb3, by simp⟩
end Go.Proofs.Ythniclbmpeklmaa.KJf
end
section
set_option maxHeartbeats 4000000
set_option maxRecDepth 100000
namespace Go.Proofs.Ythniclbmpeklmaa.Ju
open Go.RowKit Go.Maps Go.Proofs.YthniclbmpeklmaaW.PrintWords Go.Proofs.YthniclbmpeklmaaW.PrintLast Go.Proofs.YthniclbmpeklmaaW.PrintMore Go.Proofs.Ythniclbmpeklmaa.Mp Go.Proofs.Ythniclbmpeklmaa.Au
set_option linter.unusedVariables false
set_option linter.unusedSimpArgs false
def busyF (s : Be) (x : Int) : Int := match s.wks x with
 | none => 0
 | some k => k.op
theorem BeIs.len {w : World} {B b n mb m1 m2 m3 : Nat} {s : Be} {pf : Int → Option Nat} (h : BeIs w B b n s mb m1 m2 m3 pf) :
  ∃ z : Nat, (z = 0 ↔ ∀ x, s.wks x = none) ∧ MapIs (Value.int .i64) Try.prog 3 w m3 z (pV pf) := by
 obtain ⟨ks, c1, c2, c3, c4⟩ := h.mw
 refine ⟨ks.length, ⟨fun q x => ?_, fun q => ?_⟩, c4⟩
 ·rcases h.wk x with c | ⟨g, k, p1, p2, p3⟩
  ·exact c.2
  ·have := (c3 x).2 (by rw [p1]; rfl)
   rw [List.length_eq_zero_iff.1 q] at this
   cases this
 ·cases ks with
  | nil => rfl
  | cons x ks =>
   have := (c3 x).1 (by simp)
   rw [h.idle (q x)] at this
   cases this
theorem bquiet_any {w : World} {B b n mb m1 m2 m3 : Nat} {s : Be} {pf : Int → Option Nat} (h : BeIs w B b n s mb m1 m2 m3 pf) (q : Bool) (hq : q = true ↔ ∀ x, s.wks x = none) :
  Calls Try.prog 31 #[pA b] w fun r w' => r = .returned (.bool q) ∧ w = w' := by
 have hu0 := Try.underlying61
 obtain ⟨z, hz, hm⟩ := h.len
 have hl := fun ty => hm.len Try.underlying59 ty
 have HQ := Aside0.mk (show ((z : Int) == 0) = q by
  rw [Bool.eq_iff_iff, beq_iff_eq, hq, ← hz]; omega)
 have hc := fun i => h.cell i
 have hlt := h.lt
 clear h hz hm hq
 go_enter Try.func31, Try.ntmps31
 go_wp2
 go_ret
 exact ⟨by rw [← HQ.out]; rfl, rfl⟩
theorem busy_no {w : World} {B b n mb m1 m2 m3 : Nat} {s : Be} {pf : Int → Option Nat} (h : BeIs w B b n s mb m1 m2 m3 pf) (x : Int) (hx : (Lit.int .i64 x).wf = true) (hs : s.wks x = none) :
  Calls Try.prog 36 #[pA b, .int .i64 x] w fun r w' => r = .returned (.int .i64 (busyF s x)) ∧ w = w' := by
 have hu0 := Try.underlying61
 have hl := h.look hx w rfl
 rw [pV_none (h.idle hs)] at hl
 simp only [Option.getD_none, Option.isSome_none] at hl
 have hc := fun i => h.cell i
 have hlt := h.lt
 have HF := Aside0.mk (show busyF s x = 0 by unfold busyF; rw [hs])
 clear h hx hs
 go_enter Try.func36, Try.ntmps36
 go_wp2
 go_ret
 exact ⟨by rw [HF.out]; rfl, rfl⟩
theorem busy_yes {w : World} {B b n mb m1 m2 m3 : Nat} {s : Be} {pf : Int → Option Nat} (h : BeIs w B b n s mb m1 m2 m3 pf) (x : Int) (hx : (Lit.int .i64 x).wf = true) {k : Wk} (hs : s.wks x = some k) :
  Calls Try.prog 36 #[pA b, .int .i64 x] w fun r w' => r = .returned (.int .i64 (busyF s x)) ∧ w = w' := by
 have hu0 := Try.underlying61
 have hu1 := Try.underlying119
 have hu2 := Try.underlying54
 have hl := h.look hx w rfl
 obtain ⟨g, hp, _, iv, pp, hg, ho, _⟩ := h.busy hs
 rw [pV_some hp] at hl
 simp only [Option.getD_some, Option.isSome_some] at hl
 have hc := fun i => h.cell i
 have hlt := h.lt
 have hcg := fun i => blk_cell hg i
 have hlg := blk_lt hg
 have HF := Aside0.mk (show busyF s x = iv.op by unfold busyF; rw [hs]; exact ho.symm)
 clear h hx hs hp hg ho
 go_enter Try.func36, Try.ntmps36
 go_wp2
 go_ret
 exact ⟨by rw [HF.out]; rfl, rfl⟩
theorem busy_any {w : World} {B b n mb m1 m2 m3 : Nat} {s : Be} {pf : Int → Option Nat} (h : BeIs w B b n s mb m1 m2 m3 pf) (x : Int) (hx : (Lit.int .i64 x).wf = true) :
  Calls Try.prog 36 #[pA b, .int .i64 x] w fun r w' => r = .returned (.int .i64 (busyF s x)) ∧ w = w' := by
 cases hs : s.wks x with
 | none => exact busy_no h x hx hs
 | some k => exact busy_yes h x hx hs
def Wks (b : Be) : Prop := ∀ x, b.wks x ≠ none → 0 ≤ x ∧ x < b.nw
theorem Wks0 (n : Int) : Wks (be0 n) := fun x h => absurd rfl h
theorem wks_upd {b : Be} (h : Wks b) {i : Int} (h0 : 0 ≤ i) (h1 : i < b.nw) (v : Option Wk) (m : Md) : Wks { b with m := m, wks := updW b.wks i v } := fun x hx => by
 by_cases e : x = i
 ·subst e; exact ⟨h0, h1⟩
 ·exact h x (by have q : updW b.wks i v x ≠ none := hx; unfold updW at q; rwa [if_neg e] at q)
theorem wks_hear {b : Be} (h : Wks b) (e : Ev) : Wks (hearF b e).1 := by
 by_cases hr : rightJ e = false ∨ b.nw ≤ e.wk
 ·unfold hearF; rw [if_pos hr]; exact h
 have h0 : 0 ≤ e.wk := by
  have q : rightJ e = true := by
   cases q : rightJ e with
   | true => rfl
   | false => exact absurd (.inl q) hr
  unfold rightJ Ev.evRight at q
  simp at q
  omega
 have h1 : e.wk < b.nw := by
  have : ¬ b.nw ≤ e.wk := fun q => hr (.inr q)
  omega
 have hm : ∀ m, Wks { b with m := m } := fun m => h
 have hu := fun v => wks_upd h h0 h1 v b.m
 have hu2 := fun v m => wks_upd h h0 h1 v m
 unfold hearF
 rw [if_neg hr]
 split
 ·exact hm _
 ·split
  ·split
   ·exact hu _
   ·exact h
  ·split
   ·exact h
   ·split
    ·split
     ·exact h
     ·exact hm _
    ·split
     ·exact h
     ·split
      ·unfold pointB
       split
       ·split
        ·exact hu2 _ _
        ·exact hm _
       ·exact h
      ·split
       ·exact h
       ·exact hu _
end Go.Proofs.Ythniclbmpeklmaa.Ju
end
section
namespace Go.Proofs.Ythniclbmpeklmaa.KJf
open Go.RowKit Go.Proofs.YthniclbmpeklmaaW.PrintWords Go.Proofs.YthniclbmpeklmaaW.PrintLast Go.Proofs.YthniclbmpeklmaaW.PrintMore
attribute [local go_sem] max2_int min2_int max_two min_two max_three min_three max_four min_four   -- for this text's walks alone
set_option linter.unusedVariables false
set_option linter.unusedSimpArgs false
def knellref13_Quiet.l0 : Nat → Int → Int → List (S127) → List (S66) → Option (Bool)
 | 0, _, _, _, _ => none
 | k + 1, x3, x216000, x216001, x216002 => if x3 < (x216002.length : Int) then (if 0 ≤ x3 then (if ((rd_T66 x216002 x3).f0.f2) = 0 then (knellref13_Quiet.l0 k (wrap64 (x3 + 1)) x216000 x216001 x216002) else (some false)) else (none)) else (some true)
def knellref13_Quiet.f (k : Nat) (a0_0 : Int) (l0_1 : List (S127)) (l0_2 : List (S66)) : Option (Bool) := knellref13_Quiet.l0 k 0 a0_0 l0_1 l0_2
set_option maxHeartbeats 8000000 in
set_option maxRecDepth 100000 in
theorem knellref13_Quiet.calls (k : Nat) (a0_0 : Int) (A0_1 : Option Addr) (c0_1 : Nat) (l0_1 : List (S127)) (A0_2 : Option Addr) (c0_2 : Nat) (l0_2 : List (S66)) (r : Bool) (w : World) (hr0_1 : Kd.C k127 w A0_1 l0_1.length l0_1) (hc0_1 : l0_1.length ≤ c0_1) (hr0_2 : Kd.C k66 w A0_2 l0_2.length l0_2) (hc0_2 : l0_2.length ≤ c0_2) (h : knellref13_Quiet.f k a0_0 l0_1 l0_2 = some r) :
  Calls Try.prog 32 #[.agg #[.int .i64 a0_0, .slice A0_1 l0_1.length c0_1, .slice A0_2 l0_2.length c0_2]] w fun e w' => e = .returned (.bool r) ∧ Below w.heap.size w w' := by
 have hu46 := Try.underlying46
 have HR0_1 := Aside0.mk hr0_1
 have HC0_1 := Aside0.mk hc0_1
 clear hr0_1 hc0_1
 have HR0_2 := Aside0.mk hr0_2
 have HC0_2 := Aside0.mk hc0_2
 clear hr0_2 hc0_2
 have HB := Aside0.mk (Below.refl w.heap.size w)
 have H : (knellref13_Quiet.l0 k 0 a0_0 l0_1 l0_2) = some r := h
 clear h
 have H' := Aside0.mk H
 clear H
 go_enter Try.func32, Try.ntmps32
 go_wp2_with (first | ((with_reducible refine gate_dst (N := 1) rfl ?_); refine box_event ?hg (N := 1) ?hd (cs := #[.int .i64 a0_0, .slice A0_1 l0_1.length c0_1, .slice A0_2 l0_2.length c0_2]) (t := 46) ?hr ?_; (case hd => rfl); (case hg => rfl); (case hr => first | (go_simp; done) | (go_simp; rfl)); intro gb215 hg w2 hbox hb; have n0_ := Aside0.mk (below_step (by repeat (first | (with_reducible first | exact HB.out | apply below_alloc | apply pw_below_drewN | apply below_drew1) | exact HB.out)) hb); have n1_ := Aside0.mk (hbox); have n2_ := Aside0.mk ((by rw [hg]; exact (below_size (by repeat (first | (with_reducible first | exact HB.out | apply below_alloc | apply pw_below_drewN | apply below_drew1) | exact HB.out))) : w.heap.size ≤ gb215)); have n3_ := Aside0.mk ((by rw [hg]; exact (below_size (by repeat (first | (with_reducible first | exact HB.out | apply below_alloc | apply pw_below_drewN | apply below_drew1) | exact HB.out))) : w.heap.size ≤ gb215)); clear HB; have HB := n0_; have BK215 := n1_; have GW215 := n2_; have GE215 := n3_; clear n0_ n1_ n2_ n3_; clear hb hbox hg))
 go_loopg [3] k (fun kq v3 w' => ∃ (x3_1 : Int), v3 = .int .i64 x3_1 ∧ Aside0 (knellref13_Quiet.l0 kq x3_1 a0_0 l0_1 l0_2 = some r) ∧ Aside0 (kq ≤ k) ∧ Aside0 (w'.heap[gb215]? = some (.cells #[.int .i64 a0_0, (.slice A0_1 l0_1.length c0_1), (.slice A0_2 l0_2.length c0_2)] 46 (0, 0))) ∧ Aside0 (Below w.heap.size w w'))
 case atStart => exact ⟨(0), (by first | rfl | (simp; done) | (simp [*]; done)), H', ⟨Nat.le_refl _⟩, ⟨by (with_reducible repeat (first | refine blk_drewN ?_ _ | refine blk_drew ?_ | refine blk_alloc ?_ _)); exact BK215.out⟩, ⟨by repeat (first | (with_reducible first | exact HB.out | apply below_alloc | apply pw_below_drewN | apply below_drew1 | refine below_set ?_ GE215.out) | exact HB.out)⟩⟩
 case round =>
  clear H'
  try clear p2
  obtain ⟨x3_1, rfl, HA, HK1, BK215, HB⟩ := hrel
  cases gk with
  | zero => exact absurd HA.out (by simp [knellref13_Quiet.l0])
  | succ k1 =>
   have H := HA.out
   clear HA
   simp only [knellref13_Quiet.l0] at H
   by_cases c3 : x3_1 < (l0_2.length : Int)
   ·rw [if_pos c3] at H
    have c3b0 : decide (x3_1 < (l0_2.length : Int)) = true := decide_eq_true c3
    clear c3
    by_cases c4 : 0 ≤ x3_1
    ·rw [if_pos c4] at H
     have c4b0 : decide (0 ≤ x3_1) = true := decide_eq_true c4
     clear c4
     by_cases c5 : ((rd_T66 l0_2 x3_1).f0.f2) = 0
     ·rw [if_pos c5] at H
      have c5b0 : (((rd_T66 l0_2 x3_1).f0.f2) == 0) = true := beq_iff_eq.mpr c5
      have c5b1 : (((rd_T66 l0_2 x3_1).f0.f2) != 0) = false := bne_eq_false_iff_eq.mpr c5
      clear c5
      have H' := Aside0.mk H
      clear H
      have hcz6_0 : wr.cell? ⟨gb215, 0, none⟩ = some (.int .i64 a0_0) := (blk_cell BK215.out 0).trans rfl
      have hcz6_1 : wr.cell? ⟨gb215, 1, none⟩ = some (.slice A0_1 l0_1.length c0_1) := (blk_cell BK215.out 1).trans rfl
      have hcz6_2 : wr.cell? ⟨gb215, 2, none⟩ = some (.slice A0_2 l0_2.length c0_2) := (blk_cell BK215.out 2).trans rfl
      have hfz6_0 := blk_frozen BK215.out 0
      have hfz6_1 := blk_frozen BK215.out 1
      have hfz6_2 := blk_frozen BK215.out 2
      have p216 : 0 ≤ (x3_1 : Int) := of_decide_eq_true (by first | (with_reducible assumption) | assumption)
      have q216 : x3_1 < (l0_2.length : Int) := of_decide_eq_true (by first | (with_reducible assumption) | assumption)
      obtain ⟨ad216, e216, hx216_0, hx216_1, hx216_2, hx216_3, hx216_4, hx216_5, hx216_6, hx216_7, hx216_8, hx216_9, hx216_10, hx216_11, hx216_12, hx216_13, hx216_14, hx216_15, hx216_16, hx216_17, hx216_18, hx216_19, hx216_20, hx216_21, hx216_22, hx216_23, hx216_24, hx216_25⟩ := at_T66 HR0_2.out x3_1 p216 q216
      cases e216
      replace hx216_0 := (HB.out.cell (World.block_lt_of_cell? w _ hx216_0)).trans hx216_0
      replace hx216_1 := (HB.out.cell (World.block_lt_of_cell? w _ hx216_1)).trans hx216_1
      replace hx216_2 := (HB.out.cell (World.block_lt_of_cell? w _ hx216_2)).trans hx216_2
      replace hx216_3 := (HB.out.cell (World.block_lt_of_cell? w _ hx216_3)).trans hx216_3
      replace hx216_4 := (HB.out.cell (World.block_lt_of_cell? w _ hx216_4)).trans hx216_4
      replace hx216_5 := (HB.out.cell (World.block_lt_of_cell? w _ hx216_5)).trans hx216_5
      replace hx216_6 := (HB.out.cell (World.block_lt_of_cell? w _ hx216_6)).trans hx216_6
      replace hx216_7 := (HB.out.cell (World.block_lt_of_cell? w _ hx216_7)).trans hx216_7
      replace hx216_8 := (HB.out.cell (World.block_lt_of_cell? w _ hx216_8)).trans hx216_8
      replace hx216_9 := (HB.out.cell (World.block_lt_of_cell? w _ hx216_9)).trans hx216_9
      replace hx216_10 := (HB.out.cell (World.block_lt_of_cell? w _ hx216_10)).trans hx216_10
      replace hx216_11 := (HB.out.cell (World.block_lt_of_cell? w _ hx216_11)).trans hx216_11
      replace hx216_12 := (HB.out.cell (World.block_lt_of_cell? w _ hx216_12)).trans hx216_12
      replace hx216_13 := (HB.out.cell (World.block_lt_of_cell? w _ hx216_13)).trans hx216_13
      replace hx216_14 := (HB.out.cell (World.block_lt_of_cell? w _ hx216_14)).trans hx216_14
      replace hx216_15 := (HB.out.cell (World.block_lt_of_cell? w _ hx216_15)).trans hx216_15
      replace hx216_16 := (HB.out.cell (World.block_lt_of_cell? w _ hx216_16)).trans hx216_16
      replace hx216_17 := (HB.out.cell (World.block_lt_of_cell? w _ hx216_17)).trans hx216_17
      replace hx216_18 := (HB.out.cell (World.block_lt_of_cell? w _ hx216_18)).trans hx216_18
      replace hx216_19 := (HB.out.cell (World.block_lt_of_cell? w _ hx216_19)).trans hx216_19
      replace hx216_20 := (HB.out.cell (World.block_lt_of_cell? w _ hx216_20)).trans hx216_20
      replace hx216_21 := (HB.out.cell (World.block_lt_of_cell? w _ hx216_21)).trans hx216_21
      replace hx216_22 := (HB.out.cell (World.block_lt_of_cell? w _ hx216_22)).trans hx216_22
      replace hx216_23 := (HB.out.cell (World.block_lt_of_cell? w _ hx216_23)).trans hx216_23
      replace hx216_24 := (HB.out.cell (World.block_lt_of_cell? w _ hx216_24)).trans hx216_24
      replace hx216_25 := (HB.out.cell (World.block_lt_of_cell? w _ hx216_25)).trans hx216_25
      replace p216 := eq_true p216
      replace q216 := eq_true q216
      go_wp2
      go_roundg k1
      case measure => have := HK1.out; omega
      case rel => exact ⟨(wrap64 (x3_1 + 1)), (by first | rfl | (simp; done) | (simp [*]; done)), H', ⟨by have := HK1.out; omega⟩, ⟨by (with_reducible repeat (first | refine blk_drewN ?_ _ | refine blk_drew ?_ | refine blk_alloc ?_ _)); exact BK215.out⟩, ⟨by repeat (first | (with_reducible first | exact HB.out | apply below_alloc | apply pw_below_drewN | apply below_drew1 | refine below_set ?_ GE215.out) | exact HB.out)⟩⟩
     ·rw [if_neg c5] at H
      have c5b0 : (((rd_T66 l0_2 x3_1).f0.f2) == 0) = false := beq_eq_false_iff_ne.mpr c5
      have c5b1 : (((rd_T66 l0_2 x3_1).f0.f2) != 0) = true := bne_iff_ne.mpr c5
      obtain rfl := Option.some.inj H
      have hcz7_0 : wr.cell? ⟨gb215, 0, none⟩ = some (.int .i64 a0_0) := (blk_cell BK215.out 0).trans rfl
      have hcz7_1 : wr.cell? ⟨gb215, 1, none⟩ = some (.slice A0_1 l0_1.length c0_1) := (blk_cell BK215.out 1).trans rfl
      have hcz7_2 : wr.cell? ⟨gb215, 2, none⟩ = some (.slice A0_2 l0_2.length c0_2) := (blk_cell BK215.out 2).trans rfl
      have hfz7_0 := blk_frozen BK215.out 0
      have hfz7_1 := blk_frozen BK215.out 1
      have hfz7_2 := blk_frozen BK215.out 2
      have p216 : 0 ≤ (x3_1 : Int) := of_decide_eq_true (by first | (with_reducible assumption) | assumption)
      have q216 : x3_1 < (l0_2.length : Int) := of_decide_eq_true (by first | (with_reducible assumption) | assumption)
      obtain ⟨ad216, e216, hx216_0, hx216_1, hx216_2, hx216_3, hx216_4, hx216_5, hx216_6, hx216_7, hx216_8, hx216_9, hx216_10, hx216_11, hx216_12, hx216_13, hx216_14, hx216_15, hx216_16, hx216_17, hx216_18, hx216_19, hx216_20, hx216_21, hx216_22, hx216_23, hx216_24, hx216_25⟩ := at_T66 HR0_2.out x3_1 p216 q216
      cases e216
      replace hx216_0 := (HB.out.cell (World.block_lt_of_cell? w _ hx216_0)).trans hx216_0
      replace hx216_1 := (HB.out.cell (World.block_lt_of_cell? w _ hx216_1)).trans hx216_1
      replace hx216_2 := (HB.out.cell (World.block_lt_of_cell? w _ hx216_2)).trans hx216_2
      replace hx216_3 := (HB.out.cell (World.block_lt_of_cell? w _ hx216_3)).trans hx216_3
      replace hx216_4 := (HB.out.cell (World.block_lt_of_cell? w _ hx216_4)).trans hx216_4
      replace hx216_5 := (HB.out.cell (World.block_lt_of_cell? w _ hx216_5)).trans hx216_5
      replace hx216_6 := (HB.out.cell (World.block_lt_of_cell? w _ hx216_6)).trans hx216_6
      replace hx216_7 := (HB.out.cell (World.block_lt_of_cell? w _ hx216_7)).trans hx216_7
      replace hx216_8 := (HB.out.cell (World.block_lt_of_cell? w _ hx216_8)).trans hx216_8
      replace hx216_9 := (HB.out.cell (World.block_lt_of_cell? w _ hx216_9)).trans hx216_9
      replace hx216_10 := (HB.out.cell (World.block_lt_of_cell? w _ hx216_10)).trans hx216_10
      replace hx216_11 := (HB.out.cell (World.block_lt_of_cell? w _ hx216_11)).trans hx216_11
      replace hx216_12 := (HB.out.cell (World.block_lt_of_cell? w _ hx216_12)).trans hx216_12
      replace hx216_13 := (HB.out.cell (World.block_lt_of_cell? w _ hx216_13)).trans hx216_13
      replace hx216_14 := (HB.out.cell (World.block_lt_of_cell? w _ hx216_14)).trans hx216_14
      replace hx216_15 := (HB.out.cell (World.block_lt_of_cell? w _ hx216_15)).trans hx216_15
      replace hx216_16 := (HB.out.cell (World.block_lt_of_cell? w _ hx216_16)).trans hx216_16
      replace hx216_17 := (HB.out.cell (World.block_lt_of_cell? w _ hx216_17)).trans hx216_17
      replace hx216_18 := (HB.out.cell (World.block_lt_of_cell? w _ hx216_18)).trans hx216_18
      replace hx216_19 := (HB.out.cell (World.block_lt_of_cell? w _ hx216_19)).trans hx216_19
      replace hx216_20 := (HB.out.cell (World.block_lt_of_cell? w _ hx216_20)).trans hx216_20
      replace hx216_21 := (HB.out.cell (World.block_lt_of_cell? w _ hx216_21)).trans hx216_21
      replace hx216_22 := (HB.out.cell (World.block_lt_of_cell? w _ hx216_22)).trans hx216_22
      replace hx216_23 := (HB.out.cell (World.block_lt_of_cell? w _ hx216_23)).trans hx216_23
      replace hx216_24 := (HB.out.cell (World.block_lt_of_cell? w _ hx216_24)).trans hx216_24
      replace hx216_25 := (HB.out.cell (World.block_lt_of_cell? w _ hx216_25)).trans hx216_25
      replace p216 := eq_true p216
      replace q216 := eq_true q216
      go_wp2
      go_ret
      exact ⟨by first | rfl | (simp [errW_none, errW_some] <;> rfl) | (simp [*, errW_none, errW_some] <;> rfl), by repeat (first | (with_reducible first | exact HB.out | apply below_alloc | apply pw_below_drewN | apply below_drew1 | refine below_set ?_ GE215.out) | exact HB.out)⟩
    ·rw [if_neg c4] at H
     exact absurd H (by simp)
   ·rw [if_neg c3] at H
    have c3b0 : decide (x3_1 < (l0_2.length : Int)) = false := decide_eq_false c3
    clear c3
    obtain rfl := Option.some.inj H
    have hcz8_0 : wr.cell? ⟨gb215, 0, none⟩ = some (.int .i64 a0_0) := (blk_cell BK215.out 0).trans rfl
    have hcz8_1 : wr.cell? ⟨gb215, 1, none⟩ = some (.slice A0_1 l0_1.length c0_1) := (blk_cell BK215.out 1).trans rfl
    have hcz8_2 : wr.cell? ⟨gb215, 2, none⟩ = some (.slice A0_2 l0_2.length c0_2) := (blk_cell BK215.out 2).trans rfl
    have hfz8_0 := blk_frozen BK215.out 0
    have hfz8_1 := blk_frozen BK215.out 1
    have hfz8_2 := blk_frozen BK215.out 2
    go_wp2
    go_ret
    exact ⟨by first | rfl | (simp [errW_none, errW_some] <;> rfl) | (simp [*, errW_none, errW_some] <;> rfl), by repeat (first | (with_reducible first | exact HB.out | apply below_alloc | apply pw_below_drewN | apply below_drew1 | refine below_set ?_ GE215.out) | exact HB.out)⟩
def knelllaw12_Of.f (a0_0 : Int) (a0_1 : Int) : Option (Int × Int) := some (a0_0, a0_1)
set_option maxHeartbeats 8000000 in
set_option maxRecDepth 100000 in
theorem knelllaw12_Of.calls (a0_0 : Int) (a0_1 : Int) (r1 : Int) (r2 : Int) (w : World) (h : knelllaw12_Of.f a0_0 a0_1 = some (r1, r2)) :
  Calls Try.prog 34 #[.agg #[.int .i64 a0_0, .int .i64 a0_1]] w fun e w' => e = .returned (.agg #[.int .i64 r1, .int .i64 r2]) ∧ Below w.heap.size w w' := by
 have hu36 := Try.underlying36
 have hu34 := Try.underlying34
 have HB := Aside0.mk (Below.refl w.heap.size w)
 have H : (some (a0_0, a0_1)) = some (r1, r2) := h
 clear h
 simp only [Option.some.injEq, Prod.mk.injEq] at H
 obtain ⟨rfl, rfl⟩ := H
 go_enter Try.func34, Try.ntmps34
 go_wp2_with (first | ((with_reducible refine gate_dst (N := 1) rfl ?_); refine box_event ?hg (N := 1) ?hd (cs := #[.int .i64 a0_0, .int .i64 a0_1]) (t := 36) ?hr ?_; (case hd => rfl); (case hg => rfl); (case hr => first | (go_simp; done) | (go_simp; rfl)); intro gb217 hg w2 hbox hb; have n0_ := Aside0.mk (below_step (by repeat (first | (with_reducible first | exact HB.out | apply below_alloc | apply pw_below_drewN | apply below_drew1) | exact HB.out)) hb); have n1_ := Aside0.mk (hbox); have n2_ := Aside0.mk ((by rw [hg]; exact (below_size (by repeat (first | (with_reducible first | exact HB.out | apply below_alloc | apply pw_below_drewN | apply below_drew1) | exact HB.out))) : w.heap.size ≤ gb217)); have n3_ := Aside0.mk ((by rw [hg]; exact (below_size (by repeat (first | (with_reducible first | exact HB.out | apply below_alloc | apply pw_below_drewN | apply below_drew1) | exact HB.out))) : w.heap.size ≤ gb217)); clear HB; have HB := n0_; have BK217 := n1_; have GW217 := n2_; have GE217 := n3_; clear n0_ n1_ n2_ n3_; clear hb hbox hg) | ((with_reducible refine gate_dst (N := 2) rfl ?_); refine box_event ?hg (N := 2) ?hd (cs := #[.int .i64 0, .int .i64 0]) (t := 34) ?hr ?_; (case hd => rfl); (case hg => rfl); (case hr => first | (go_simp; done) | (go_simp; rfl)); intro gb218 hg w3 hbox hb; have n0_ := Aside0.mk (blk_below (g := gb217) (o := .cells #[.int .i64 a0_0, .int .i64 a0_1] 36 (0, 0)) (by (with_reducible repeat (first | refine blk_drewN ?_ _ | refine blk_drew ?_ | refine blk_alloc ?_ _)); exact BK217.out) hb); have n1_ := Aside0.mk (below_step (by repeat (first | (with_reducible first | exact HB.out | apply below_alloc | apply pw_below_drewN | apply below_drew1 | refine below_set ?_ GE217.out) | exact HB.out)) hb); have n2_ := Aside0.mk (hbox); have n3_ := Aside0.mk ((by rw [hg]; exact (below_size (by repeat (first | (with_reducible first | exact HB.out | apply below_alloc | apply pw_below_drewN | apply below_drew1 | refine below_set ?_ GE217.out) | exact HB.out))) : w.heap.size ≤ gb218)); have n4_ := Aside0.mk ((by rw [hg]; exact (below_size (by repeat (first | (with_reducible first | exact HB.out | apply below_alloc | apply pw_below_drewN | apply below_drew1 | refine below_set ?_ GE217.out) | exact HB.out))) : w.heap.size ≤ gb218)); have n5_ := Aside0.mk ((by rw [hg]; exact Nat.ne_of_lt (blk_lt (g := gb217) (o := .cells #[.int .i64 a0_0, .int .i64 a0_1] 36 (0, 0)) (by (with_reducible repeat (first | refine blk_drewN ?_ _ | refine blk_drew ?_ | refine blk_alloc ?_ _)); exact BK217.out)) : gb217 ≠ gb218)); have n6_ := Aside0.mk ((by rw [hg]; exact Nat.ne_of_gt (blk_lt (g := gb217) (o := .cells #[.int .i64 a0_0, .int .i64 a0_1] 36 (0, 0)) (by (with_reducible repeat (first | refine blk_drewN ?_ _ | refine blk_drew ?_ | refine blk_alloc ?_ _)); exact BK217.out)) : gb218 ≠ gb217)); clear BK217; clear HB; have BK217 := n0_; have HB := n1_; have BK218 := n2_; have GW218 := n3_; have GE218 := n4_; have NB217_218 := n5_; have NB218_217 := n6_; clear n0_ n1_ n2_ n3_ n4_ n5_ n6_; clear hb hbox hg; have hnb4 := NB217_218.out; have hnc4 := NB218_217.out; have hcz5_0 : w3.cell? ⟨gb217, 0, none⟩ = some (.int .i64 a0_0) := (blk_cell BK217.out 0).trans rfl; have hcz5_1 : w3.cell? ⟨gb217, 1, none⟩ = some (.int .i64 a0_1) := (blk_cell BK217.out 1).trans rfl; have hfz5_0 := blk_frozen BK217.out 0; have hfz5_1 := blk_frozen BK217.out 1; have hcz6_0 : w3.cell? ⟨gb218, 0, none⟩ = some (.int .i64 0) := (blk_cell BK218.out 0).trans rfl; have hcz6_1 : w3.cell? ⟨gb218, 1, none⟩ = some (.int .i64 0) := (blk_cell BK218.out 1).trans rfl; have hfz6_0 := blk_frozen BK218.out 0; have hfz6_1 := blk_frozen BK218.out 1))
 refine bodyPost_ret (results_cell_row rfl _ _ gb218 34 #[.int .i64 a0_0, .int .i64 a0_1] (0, 0) _ rfl (by (with_reducible repeat (first | refine blk_drewN ?_ _ | refine blk_drew ?_ | refine blk_alloc ?_ _)); refine blk_put (cs := #[.int .i64 a0_0, .int .i64 0]) ?_ 1 _ rfl; (with_reducible repeat (first | refine blk_drewN ?_ _ | refine blk_drew ?_ | refine blk_alloc ?_ _)); refine blk_put (cs := #[.int .i64 0, .int .i64 0]) ?_ 0 _ rfl; (with_reducible repeat (first | refine blk_drewN ?_ _ | refine blk_drew ?_ | refine blk_alloc ?_ _)); exact BK218.out) Try.underlying34 rfl (by kernel_rfl)) rfl ?_
 exact ⟨by first | rfl | (simp [errW_none, errW_some] <;> rfl) | (simp [*, errW_none, errW_some] <;> rfl), by repeat (first | (with_reducible first | exact HB.out | apply below_alloc | apply pw_below_drewN | apply below_drew1 | refine below_set ?_ GE217.out | refine below_set ?_ GE218.out) | exact HB.out)⟩
end Go.Proofs.Ythniclbmpeklmaa.KJf
end
section
namespace Go.Proofs.Ythniclbmpeklmaa.KJf
open Go.RowKit Go.Maps Go.Proofs.YthniclbmpeklmaaW.PrintWords Go.Proofs.YthniclbmpeklmaaW.PrintLast Go.Proofs.YthniclbmpeklmaaW.PrintMore Go.Proofs.Ythniclbmpeklmaa.Mp Go.Proofs.Ythniclbmpeklmaa.Ju
open Go.Proofs.Ythniclbmpeklmaa.Au (evA types_ne map_ne RowIs)
open Go.Proofs.YthniclbmpeklmaaW.PrintWords renaming Ev → PE
set_option linter.unusedVariables false
set_option linter.unusedSimpArgs false
def quietR (l : List S66) : Bool := l.all fun x => x.f0.f2 == 0
theorem rd66_at {l : List S66} {i : Nat} (h : i < l.length) : rd_T66 l (i : Int) = l[i] := by
 unfold rd_T66
 simp [List.getD, h]
theorem quiet_is (l : List S66) (hn : l.length ≤ 1000000) (c : Int) (L : List S127) : PE (fun k => knellref13_Quiet.f k c L l) (quietR l) := by
 have go : ∀ d i, i + d = l.length → PE (fun k => knellref13_Quiet.l0 k (i : Int) c L l) (quietR (l.drop i)) := by
  intro d
  induction d with
  | zero =>
   intro i hd
   obtain rfl : i = l.length := by omega
   refine Ev.self fun k => ?_
   rw [knellref13_Quiet.l0, if_neg (by omega), List.drop_length]
   rfl
  | succ d ih =>
   intro i hd
   have hi : i < l.length := by omega
   have hdr : l.drop i = l[i] :: l.drop (i + 1) := List.drop_eq_getElem_cons hi
   by_cases q : l[i].f0.f2 = 0
   ·have e : quietR (l.drop i) = quietR (l.drop (i + 1)) := by rw [hdr]; unfold quietR; rw [List.all_cons, beq_iff_eq.2 q]; rfl
    rw [e]
    refine PE.step (f := fun k => knellref13_Quiet.l0 k ((i + 1 : Nat) : Int) c L l) (fun k => ?_) (ih (i + 1) (by omega))
    rw [knellref13_Quiet.l0, if_pos (by omega), if_pos (by omega), rd66_at hi, if_pos q, w64 hi hn]
   ·have e : quietR (l.drop i) = false := by rw [hdr]; unfold quietR; rw [List.all_cons, beq_eq_false_iff_ne.2 q]; rfl
    rw [e]
    refine Ev.self fun k => ?_
    rw [knellref13_Quiet.l0, if_pos (by omega), if_pos (by omega), rd66_at hi, if_neg q]
 exact go l.length 0 (by omega)
theorem rquiet_any {W : World} {B : Nat} (clk : Int) (A0 : Option Addr) (c0 : Nat) (L : List S127) (A : Option Addr) (c nw : Nat) (l : List S66) (hl : l.length = nw) (hn : nw ≤ 1000000) (hr : KR W B (.slice A0 L.length c0) L) (hw : KW W B (.slice A nw c) l) :
  Calls Try.prog 32 #[.agg #[.int .i64 clk, .slice A0 L.length c0, .slice A nw c]] W fun r w' => r = .returned (.bool (quietR l)) ∧ Below W.heap.size W w' := by
 subst hl
 obtain ⟨k, hk⟩ := PE.rounds (quiet_is l hn clk L)
 exact knellref13_Quiet.calls k clk A0 c0 L A c l _ W hr.C.1 hr.C.2 (KW.C hw).1 (KW.C hw).2 hk
theorem of_ev (e : Au.Ev) (W : World) : Calls Try.prog 30 #[.agg (evA e)] W fun r w' => r = .returned (.agg (evA e)) ∧ Below W.heap.size W w' :=
 knelllaw11_Of.calls _ _ _ _ _ _ _ _ _ _ _ _ _ _ _ _ _ _ _ _ _ _ _ _ W rfl
theorem of_ha (x y : Int) (W : World) : Calls Try.prog 34 #[.agg #[.int .i64 x, .int .i64 y]] W fun r w' => r = .returned (.agg #[.int .i64 x, .int .i64 y]) ∧ Below W.heap.size W w' :=
 knelllaw12_Of.calls _ _ _ _ W rfl
theorem BSim.busy {n : Nat} {s : Be} {r : Rb} (h : BSim n s r) {i : Nat} {x : S66} (hx : r.W[i]? = some x) : busyF s (i : Int) = x.f0.f2 := by
 unfold busyF
 rw [h.wk i x hx]
 unfold wkOf
 by_cases q : x.f0.f2 = 0
 ·rw [if_pos q, q]
 ·rw [if_neg q]
theorem BSim.quiet {n : Nat} {s : Be} {r : Rb} (h : BSim n s r) (hw : Wks s) : quietR r.W = true ↔ ∀ x, s.wks x = none := by
 unfold quietR
 rw [List.all_eq_true]
 refine ⟨fun q x => ?_, fun q x hx => ?_⟩
 ·cases hs : s.wks x with
  | none => rfl
  | some k =>
   obtain ⟨h0, h1⟩ := hw x (by rw [hs]; simp)
   rw [h.nw] at h1
   obtain ⟨y, hy, _, hm⟩ := rd_at6 h0 h1
   have := h.wk x.toNat y hy
   rw [show ((x.toNat : Nat) : Int) = x by omega, hs] at this
   unfold wkOf at this
   rw [if_pos (beq_iff_eq.1 (q y hm))] at this
   cases this
 ·obtain ⟨i, hi, rfl⟩ := List.getElem_of_mem hx
  have := h.wk i _ (List.getElem?_eq_getElem hi)
  rw [q] at this
  unfold wkOf at this
  by_cases c : r.W[i].f0.f2 = 0
  ·exact beq_iff_eq.2 c
  ·rw [if_neg c] at this; cases this
theorem BSim.beyond {n : Nat} {s : Be} {r : Rb} (h : BSim n s r) (hw : Wks s) {x : Int} (hx : x < 0 ∨ (r.W.length : Int) ≤ x) : busyF s x = 0 := by
 unfold busyF
 cases hs : s.wks x with
 | none => rfl
 | some k =>
  obtain ⟨h0, h1⟩ := hw x (by rw [hs]; simp)
  rw [h.nw] at h1
  omega
section
variable {w w1 : World} {B B' b n mb m1 m2 m3 : Nat} {s : Be} {pf : Int → Option Nat}
theorem MdIs.lower {m : Md} (h : MdIs w B b n m m1 m2) (hB : B' ≤ B) : MdIs w B' b n m m1 m2 := ⟨h.blk, h.mf, h.ml, Nat.le_trans hB h.hb, Nat.le_trans hB h.h1, Nat.le_trans hB h.h2, h.m12⟩
theorem BeIs.lower (h : BeIs w B b n s mb m1 m2 m3 pf) (hB : B' ≤ B) : BeIs w B' b n s mb m1 m2 m3 pf := by
 refine ⟨h.blk, MdIs.lower h.md hB, h.mw, fun x => ?_, h.inj, Nat.le_trans hB h.hb, Nat.le_trans hB h.h3, h.m31, h.m32⟩
 rcases h.wk x with c | ⟨g, k, p1, p2, h0, iv, pp, q1, q2, q3, q4, q5, q6⟩
 ·exact .inl c
 ·refine .inr ⟨g, k, p1, p2, Nat.le_trans hB h0, iv, pp, q1, q2, q3, q4, q5, ?_⟩
  rcases q6 with q6 | ⟨q, ev, a1, a2, a3, a4⟩
  ·exact .inl q6
  ·exact .inr ⟨q, ev, a1, Nat.le_trans hB a2, a3, a4⟩
theorem BeIs.far (h : BeIs w B b n s mb m1 m2 m3 pf) {g0 : Nat} {cs0 : Array Value} (h0 : w.heap[g0]? = some (.cells cs0 46 (0, 0))) (hk : ∀ k, k ≠ g0 → w1.heap[k]? = w.heap[k]?) : BeIs w1 B b n s mb m1 m2 m3 pf := by
 obtain ⟨ks, c1, c2, c3, c4⟩ := h.mw
 obtain ⟨z1, _, q1⟩ := h.md.mf
 obtain ⟨z2, _, q2⟩ := h.md.ml
 obtain ⟨_, _, q1⟩ := q1.block
 obtain ⟨_, _, q2⟩ := q2.block
 obtain ⟨_, _, q3⟩ := c4.block
 have kb := hk b (types_ne h.blk h0 (by decide))
 have k3 := hk m3 (fun e => map_ne h0 q3 e.symm)
 refine ⟨kb.trans h.blk, h.md.move (fun g _ e => ?_), ⟨ks, c1, c2, c3, c4.move k3⟩, fun x => ?_, h.inj, h.hb, h.h3, h.m31, h.m32⟩
 ·rcases e with rfl | rfl | rfl
  ·exact hk _ (types_ne h.md.blk h0 (by decide))
  ·exact hk _ (fun e => map_ne h0 q1 e.symm)
  ·exact hk _ (fun e => map_ne h0 q2 e.symm)
 ·rcases h.wk x with c | ⟨g, k, p1, p2, p3⟩
  ·exact .inl c
  ·refine .inr ⟨g, k, p1, p2, p3.keep fun q cs t hq ht => ?_⟩
   rcases ht with rfl | rfl
   ·obtain ⟨_, hg⟩ := p3.ty
    exact hk _ (types_ne hg h0 (by decide))
   ·exact hk _ (types_ne hq h0 (by decide))
end
structure Jp (w W : World) (b mb m1 m2 m3 k nb ab : Nat) (s : Be) (r : Rb) (A0 : Option Addr) (c0 : Nat) (A : Option Addr) (c nw : Nat) (x y : Int) : Prop where
 be : ∃ pf, BeIs W w.heap.size b (4 * k) s mb m1 m2 m3 pf
 lr : Lr w W nb r A0 c0 A c nw
 ab_ : W.heap[ab]? = some (.cells #[.int .i64 x, .int .i64 y] 36 (0, 0))
 lb : w.heap.size ≤ ab
section
variable {w W W1 : World} {b mb m1 m2 m3 k nb ab : Nat} {s : Be} {r : Rb} {A0 : Option Addr} {c0 : Nat} {A : Option Addr} {c nw : Nat} {x y : Int}
theorem Jp.step (h : Jp w W b mb m1 m2 m3 k nb ab s r A0 c0 A c nw x y) (hb : Below W.heap.size W W1) : Jp w W1 b mb m1 m2 m3 k nb ab s r A0 c0 A c nw x y :=
 ⟨by obtain ⟨pf, q⟩ := h.be; exact ⟨pf, q.below hb⟩, h.lr.step hb, blk_below h.ab_ hb, h.lb⟩
theorem Jp.drew (h : Jp w W b mb m1 m2 m3 k nb ab s r A0 c0 A c nw x y) : Jp w W.drew b mb m1 m2 m3 k nb ab s r A0 c0 A c nw x y := h.step (below_drew (Below.refl _ _))
theorem Jp.bcell (h : Jp w W b mb m1 m2 m3 k nb ab s r A0 c0 A c nw x y) (i : Nat) : W.cell? ⟨b, i, none⟩ = (beA s.nw mb m3)[i]? := by obtain ⟨pf, q⟩ := h.be; exact q.cell i
theorem Jp.hear {s' : Be} (h : Jp w W b mb m1 m2 m3 k nb ab s r A0 c0 A c nw x y) (hb : Blw w.heap.size W W1) (hs : ∃ pf, BeIs W1 w.heap.size b (4 * (k + 1)) s' mb m1 m2 m3 pf) : Jp w W1 b mb m1 m2 m3 (k + 1) nb ab s' r A0 c0 A c nw x y :=
 ⟨hs, ⟨h.lr.bel.trans hb.b, (hb.f _ _ _ h.lr.b_ (by decide) (by decide)).trans h.lr.b_, h.lr.lt, h.lr.kr.keep fun g cs hg => hb.f g cs _ hg (by decide) (by decide), KW.keep h.lr.kw fun g cs hg => hb.f g cs _ hg (by decide) (by decide), h.lr.len⟩, (hb.f _ _ _ h.ab_ (by decide) (by decide)).trans h.ab_, h.lb⟩
theorem Jp.put (h : Jp w W b mb m1 m2 m3 k nb ab s r A0 c0 A c nw x y) {r1 : Rb} {A01 A2 : Option Addr} {c01 c2 : Nat} (hr : KR W w.heap.size (.slice A01 r1.m.L.length c01) r1.m.L) (hw : KW W w.heap.size (.slice A2 nw c2) r1.W) (hl : r1.W.length = nw) :
  Jp w (W.setRow nb #[.int .i64 r1.m.clk, .slice A01 r1.m.L.length c01, .slice A2 nw c2]) b mb m1 m2 m3 k nb ab s r1 A01 c01 A2 c2 nw x y := by
 have far : ∀ q, q ≠ nb → (W.setRow nb #[.int .i64 r1.m.clk, .slice A01 r1.m.L.length c01, .slice A2 nw c2]).heap[q]? = W.heap[q]? := fun q hq => setRow_other W _ q _ hq
 obtain ⟨pf, q⟩ := h.be
 exact ⟨⟨pf, BeIs.far q h.lr.b_ far⟩, ⟨below_setRow h.lr.bel h.lr.lt _, setRow_heap _ _ _ _ _ _ h.lr.b_, h.lr.lt, hr.keep fun g cs hg => far g (types_ne hg h.lr.b_ (by decide)), KW.keep hw fun g cs hg => far g (types_ne hg h.lr.b_ (by decide)), hl⟩, (far _ (types_ne h.ab_ h.lr.b_ (by decide))).trans h.ab_, h.lb⟩
end
end Go.Proofs.Ythniclbmpeklmaa.KJf
end
section
set_option maxHeartbeats 20000000
set_option maxRecDepth 100000
namespace Go.Proofs.Ythniclbmpeklmaa.KJf
open Go.RowKit Go.Maps Go.Proofs.YthniclbmpeklmaaW.PrintWords Go.Proofs.YthniclbmpeklmaaW.PrintLast Go.Proofs.YthniclbmpeklmaaW.PrintMore Go.Proofs.Ythniclbmpeklmaa.Mp Go.Proofs.Ythniclbmpeklmaa.Ju
open Go.Proofs.Ythniclbmpeklmaa.Au (evA types_ne map_ne RowIs)
open Go.Proofs.YthniclbmpeklmaaW.PrintWords renaming Ev → PE
set_option linter.unusedVariables false
set_option linter.unusedSimpArgs false
theorem jp_start {w w3 : World} {b mb m1 m2 m3 ab nw : Nat} {pf : Int → Option Nat} {A0 A : Option Addr} {c0 c : Nat} {x y : Int} (hbe : BeIs w3 w.heap.size b 0 (be0 nw) mb m1 m2 m3 pf) (hb : Below w.heap.size w w3) (hab : w3.heap[ab]? = some (.cells #[.int .i64 x, .int .i64 y] 36 (0, 0))) (hla : w.heap.size ≤ ab) (hk : KR w3 w.heap.size (.slice A0 0 c0) []) (hw : KW w3 w.heap.size (.slice A nw c) (List.replicate nw z66)) :
  Jp w ((w3.alloc (.cells #[.int .i64 0, .slice none 0 0, .slice none 0 0] 46)).setRow w3.heap.size #[.int .i64 0, .slice A0 0 c0, .slice A nw c]) b mb m1 m2 m3 0 w3.heap.size ab (be0 nw) ⟨⟨0, []⟩, List.replicate nw z66⟩ A0 c0 A c nw x y := by
 have hb3 : Below w3.heap.size w3 ((w3.alloc (.cells #[.int .i64 0, .slice none 0 0, .slice none 0 0] 46)).setRow w3.heap.size #[.int .i64 0, .slice A0 0 c0, .slice A nw c]) := below_setRow (below_alloc (Below.refl _ _) _) (Nat.le_refl _) _
 exact ⟨⟨pf, hbe.below hb3⟩, lr_start hb hk hw, blk_below hab hb3, hla⟩
theorem Jp.cells {w W : World} {b mb m1 m2 m3 k nb ab : Nat} {s : Be} {r : Rb} {A0 : Option Addr} {c0 : Nat} {A : Option Addr} {c nw : Nat} {x y : Int} (h : Jp w W b mb m1 m2 m3 k nb ab s r A0 c0 A c nw x y) (hs : s.nw = (nw : Int)) {yb : Nat} {e : Au.Ev} (hy : W.heap[yb]? = some (.cells (evA e) 50 (0, 0))) :
  (∀ i, W.cell? ⟨yb, i, none⟩ = (evA e)[i]?) ∧ (∀ i, W.cell? ⟨nb, i, none⟩ = (#[.int .i64 r.m.clk, .slice A0 r.m.L.length c0, .slice A nw c] : Array Value)[i]?) ∧ (∀ i, W.cell? ⟨b, i, none⟩ = (beA (nw : Int) mb m3)[i]?) ∧ (∀ i, W.cell? ⟨ab, i, none⟩ = (#[.int .i64 x, .int .i64 y] : Array Value)[i]?) :=
 ⟨fun i => blk_cell hy i, fun i => blk_cell h.lr.b_ i, fun i => hs ▸ h.bcell i, fun i => blk_cell h.ab_ i⟩
def jpR.T14 : Bool × List (List Nat × List Nat) := (true, [([], []), ([], []), ([1], [1]), ([0, 2, 2], [0, 2]), ([], []), ([3, 4], [3, 4]), ([5, 3], [5]), ([6], [6]), ([7, 6, 6], [6, 7]), ([6], [6]), ([9, 8, 6], [6, 9]), ([8, 10, 6], [6, 8, 10]), ([6, 11], [6, 11]), ([12, 10], [12]), ([13], [13]), ([14, 13], [13, 14]), ([15, 13], [13, 15]), ([16, 13], [13, 16]), ([13], [13]), ([18, 13, 13], [13, 18]), ([17, 19, 19, 13], [13, 17, 19]), ([13], [13]), ([21, 13], [13, 21]), ([13], [13]), ([22, 23, 20, 13], [13, 22, 23]), ([20, 24, 13], [13, 20, 24]), ([13, 25], [13, 25]), ([26, 24], [26]), ([27], [27]), ([28, 27, 27], [27, 28]), ([29, 27], [27, 29]), ([27, 30], [27, 30]), ([31, 29], [31]), ([32], [32]), ([32], [32]), ([33, 34, 32, 32], [32, 33, 34]), ([35, 32], [32, 35]), ([32, 36], [32, 36])])
def jpR.B14 : List Nat := [0, 0, 2, 7, 0, 31, 63, 127, 255, 127, 1023, 2047, 4095, 8191, 16383, 32767, 65535, 131071, 16383, 278527, 1048575, 16383, 2113535, 16383, 16777215, 33554431, 67108863, 134217727, 268435455, 536870911, 1073741823, 2147483647, 4294967295, 8589934591, 8589934591, 34359738367, 68719476735, 137438953471]
theorem jpR.tab14 : rtab .any (opsOf Try.f6 14) = jpR.T14 := by kernel_rfl
theorem jpR.bits14 : waitsOk jpR.T14.2 jpR.B14 = true := by kernel_rfl
def jpS.T19 : Bool × List (List Nat × List Nat) := (true, [([], []), ([], []), ([0, 1], [0, 1]), ([], []), ([3], [3]), ([4], [4]), ([2, 5], [2, 5])])
def jpS.B19 : List Nat := [0, 0, 3, 0, 8, 24, 63]
theorem jpS.tab19 : rtab .any (opsOf Try.f6 19) = jpS.T19 := by kernel_rfl
theorem jpS.bits19 : waitsOk jpS.T19.2 jpS.B19 = true := by kernel_rfl
theorem plays_long (A1 : Option Addr) (n c1 : Nat) (hn : 60 < n) (a x y : Int) (w : World) :
  Calls Try.prog 6 #[.int .i64 a, .slice A1 n c1, .agg #[.int .i64 x, .int .i64 y]] w fun r w' => r = .returned (.bool true) ∧ Below w.heap.size w w' := by
 have CS := Aside0.mk (fun W => speaks_any W)
 have hn' : decide ((n : Int) > 60) = true := by simp; omega
 clear hn
 go_enter Try.func6, Try.ntmps6
 go_wp2_with (first | (go_at_call 25; go_loud ((with_reducible refine (CS.out _).mono ?_); rintro e w2 ⟨rfl, hb⟩; have n3 := Aside0.mk (below_step n1.out hb); clear hb; clear n1; have n1 := n3)) | (go_at_call 25; go_loud ((with_reducible refine (CS.out _).mono ?_); rintro e w1 ⟨rfl, hb⟩; have n1 := Aside0.mk (show Below w.heap.size w w1 from below_step (below_alloc (Below.refl _ _) _) hb); have n2 := Aside0.mk ((hb.block w.heap.size (by simp)).trans (heap_alloc_new w (.cells #[.int .i64 x, .int .i64 y] 36))); clear hb)))
 go_ret
 exact ⟨rfl, n1.out⟩
theorem plays_no (A1 : Option Addr) (n c1 : Nat) (hn : n ≤ 60) (a x y : Int) (ha : a < 1 ∨ 64 < a) (w : World) :
  Calls Try.prog 6 #[.int .i64 a, .slice A1 n c1, .agg #[.int .i64 x, .int .i64 y]] w fun r w' => r = .returned (.bool true) ∧ Below w.heap.size w w' := by
 have hu0 := Try.underlying46
 have CS := Aside0.mk (fun W => speaks_any W)
 have CN := Aside0.mk (fun W => judge_new_no a ha W)
 have CR := Aside0.mk (fun W => new_no a ha W)
 have hn' : decide ((n : Int) > 60) = false := by simp; omega
 clear hn ha
 go_enter Try.func6, Try.ntmps6
 go_wp2_with (first | (go_at_call 25; go_loud ((with_reducible refine (CS.out _).mono ?_); rintro e w1 ⟨rfl, hb⟩; have n1 := Aside0.mk (show Below w.heap.size w w1 from below_step (below_alloc (Below.refl _ _) _) hb); have n2 := Aside0.mk ((hb.block w.heap.size (by simp)).trans (heap_alloc_new w (.cells #[.int .i64 x, .int .i64 y] 36))); clear hb)) | (go_at_call 26; go_loud ((with_reducible refine (CN.out _).mono ?_); rintro e w2 ⟨rfl, rfl⟩)) | (go_at_call 27; go_loud ((with_reducible refine (CR.out _).mono ?_); rintro e w3 ⟨A0, c0, A, c, rfl, hb⟩; have n3 := Aside0.mk (below_step n1.out hb); clear hb n1 n2)) | ((with_reducible refine gate_store (t := 46) (p := 9) rfl ?_); go_loud (refine wpList_store_row rfl 46 _ _ rfl (w3.heap.size) #[.int .i64 0, .slice A0 0 c0, .slice A 0 c] rfl rfl 46 _ (blk_new w3 (.cells #[.int .i64 0, .slice none 0 0, .slice none 0 0] 46)) (by kernel_rfl) rfl (by simp [Value.oneCell']) ?_; have HP := Aside0.mk (below_step n3.out (show Below w3.heap.size w3 ((w3.alloc (.cells #[.int .i64 0, .slice none 0 0, .slice none 0 0] 46)).setRow w3.heap.size #[.int .i64 0, .slice A0 0 c0, .slice A 0 c]) from below_setRow (below_alloc (Below.refl _ _) _) (Nat.le_refl _) _)))))
 go_ret
 exact ⟨rfl, HP.out⟩
theorem hear_jp {w W : World} {b mb m1 m2 m3 k nb ab : Nat} {s : Be} {r : Rb} {A0 : Option Addr} {c0 : Nat} {A : Option Addr} {c nw : Nat} {x y : Int} {e : Au.Ev} (h : Jp w W b mb m1 m2 m3 k nb ab s r A0 c0 A c nw x y) (hl : LstOk s.m) (hw : wfJ e) (hk : k ≤ 1000) :
  Calls Try.prog 29 #[pA b, .agg (evA e)] W fun rr w' => rr = .returned (.int .i64 (hearF s e).2) ∧ Jp w w' b mb m1 m2 m3 (k + 1) nb ab (hearF s e).1 r A0 c0 A c nw x y ∧ (∀ (g : Nat) (cs : Array Value) (t : TypeId), W.heap[g]? = some (.cells cs t (0, 0)) → t ≠ 125 → t ≠ 119 → w'.heap[g]? = W.heap[g]?) := by
 obtain ⟨pf, hbe⟩ := h.be
 refine (hear_any e hw.1 hw.2 (by omega) hl hbe h.lr.bel.size).mono ?_
 rintro rr w' ⟨h1, ⟨pf2, h2⟩, h3⟩
 exact ⟨h1, h.hear h3 ⟨pf2, by rw [show 4 * (k + 1) = 4 * k + 4 by omega]; exact h2⟩, h3.f⟩
theorem wf_near {z : Int} (h1 : -1000000 ≤ z) (h2 : z ≤ 1000000) : (Lit.int .i64 z).wf = true := by
 have e1 : IntKind.i64.min = -9223372036854775808 := rfl
 have e2 : IntKind.i64.max = 9223372036854775807 := rfl
 simp only [Lit.wf, e1, e2, Bool.and_eq_true, decide_eq_true_eq]
 omega
theorem plays_main (A1 : Option Addr) (c1 nw : Nat) (h1 : 1 ≤ nw) (h64 : nw ≤ 64) (l : List Au.Ev) (hn : l.length ≤ 60) (x y : Int) (hx : (Lit.int .i64 x).wf = true) (hy : (Lit.int .i64 y).wf = true) (w : World) (hin : ∀ (i : Nat) e, l[i]? = some e → EvIn w A1 i e) (hwf : ∀ e ∈ l, wfJ e ∧ e.t ≤ 9223372036854775807) :
  Calls Try.prog 6 #[.int .i64 nw, .slice A1 l.length c1, .agg #[.int .i64 x, .int .i64 y]] w fun r w' => r = .returned (.bool true) ∧ Below w.heap.size w w' := by
 have hu0 := Try.underlying46
 have hu2 := Try.underlying50
 have hu3 := Try.underlying66
 have hu4 := Try.underlying22
 have hu5 := Try.underlying44
 have hu6 := Try.underlying61
 have hu7 := Try.underlying43
 have hu8 := Try.underlying36
 have CS := Aside0.mk (fun W => speaks_any W)
 have CN := Aside0.mk (fun W => judge_new (nw : Int) (by omega) W)
 have CR := Aside0.mk (fun W => new_lit nw h1 h64 W)
 have HIN := Aside0.mk hin
 have HWF := Aside0.mk hwf
 have HN := Aside0.mk hn
 have HNW := Aside0.mk (And.intro h1 h64)
 have HXY := Aside0.mk (And.intro hx hy)
 have hn' : decide ((l.length : Int) > 60) = false := by simp; omega
 clear hin hwf hn h1 h64 hx hy
 go_enter Try.func6, Try.ntmps6
 go_wp2_with (first | (go_at_call 25; go_loud ((with_reducible refine (CS.out _).mono ?_); rintro e w1 ⟨rfl, hb⟩; have n1 := Aside0.mk (show Below w.heap.size w w1 from below_step (below_alloc (Below.refl _ _) _) hb); have n2 := Aside0.mk ((hb.block w.heap.size (by simp)).trans (heap_alloc_new w (.cells #[.int .i64 x, .int .i64 y] 36))); clear hb)) | (go_at_call 26; go_loud ((with_reducible refine (CN.out _).mono ?_); rintro e w2 ⟨b, mb, m1, m2, m3, rfl, hbe, hb⟩; have n3 := Aside0.mk (BeIs.lower hbe n1.out.size); have n4 := Aside0.mk (below_step n1.out hb); have n5 := Aside0.mk ((hb.block _ (blk_lt n2.out)).trans n2.out); clear hbe hb n1 n2)) | (go_at_call 27; go_loud ((with_reducible refine (CR.out _).mono ?_); rintro e w3 ⟨A0, c0, A, c, rfl, hk1, hw1, hb⟩; have n6 := Aside0.mk (n3.out.below hb); have n7 := Aside0.mk (below_step n4.out hb); have n8 := Aside0.mk ((hb.block _ (blk_lt n5.out)).trans n5.out); have HK0 := Aside0.mk (Kd.R_lower hk1 n4.out.size); have HW0 := Aside0.mk (Kd.R_lower hw1 n4.out.size); clear hk1 hw1 hb n3 n4 n5)) | ((with_reducible refine gate_store (t := 46) (p := 9) rfl ?_); go_loud (refine wpList_store_row rfl 46 _ _ rfl (w3.heap.size) #[.int .i64 0, .slice A0 0 c0, .slice A nw c] rfl rfl 46 _ (blk_new w3 (.cells #[.int .i64 0, .slice none 0 0, .slice none 0 0] 46)) (by kernel_rfl) rfl (by simp [Value.oneCell']) ?_; have HP := Aside0.mk (jp_start n6.out n7.out n8.out (Nat.le_refl _) HK0.out HW0.out); clear n6 n7 n8 HK0 HW0)))
 have HJ0 : Aside0 (∃ s r A0 c0 A c, Jp w _ b mb m1 m2 m3 0 w3.heap.size w.heap.size s r A0 c0 A c nw x y ∧ BSim 0 s r ∧ Wks s ∧ LstOk s.m ∧ s.nw = (nw : Int)) := ⟨⟨_, _, _, _, _, _, HP.out, sim0 nw, Wks0 _, (fun x => by rfl), rfl⟩⟩
 clear HP
 generalize w3.heap.size = nb at HJ0 ⊢
 go_loopw [49] (fun i wr => ∃ k : Nat, k ≤ l.length ∧ i = .int .i64 k ∧ Aside0 (∃ s r A0 c0 A c, Jp w wr b mb m1 m2 m3 k nb w.heap.size s r A0 c0 A c nw x y ∧ BSim k s r ∧ Wks s ∧ LstOk s.m ∧ s.nw = (nw : Int))) (fun i _ => l.length - (intOf i).toNat)
 case atStart => exact ⟨0, by omega, rfl, HJ0⟩
 case round =>
  clear HJ0
  obtain ⟨k, hk, rfl, HI0⟩ := hrel
  rcases Nat.lt_or_ge k l.length with hlt | hge
  ·obtain ⟨s, r, A0, c0, A, c, hi⟩ := HI0.out
   have HI := Aside0.mk hi
   clear hi HI0
   have p0 : (0 : Int) ≤ (k : Int) := by omega
   have q0 : (k : Int) < (l.length : Int) := by omega
   obtain ⟨e, he⟩ : ∃ e, l[k]? = some e := ⟨_, List.getElem?_eq_getElem hlt⟩
   have HE := Aside0.mk he
   have HW := Aside0.mk (HWF.out e (Go.Proofs.Ythniclbmpeklmaa.Au.get_mem he))
   obtain ⟨ad, rfl, d0, d1, d2, d3, d4, d5, d6, d7, d8, d9, d10, d11⟩ := (HIN.out k e he).below HI.out.1.lr.bel
   have hnn : wrap64 ((k : Int) + 1) = ((k + 1 : Nat) : Int) := by have := HN.out; unfold wrap64; omega
   have hst := BSim.step HI.out.2.1 (by have := HN.out; omega) e HW.out.1.1.2.1 HW.out.2
   have hws := wks_hear HI.out.2.2.1 e
   have hls := lst_hear (e := e) HI.out.2.2.2.1 HW.out.1
   have hsn := (hear_nw s e).trans HI.out.2.2.2.2
   have hCH := fun (W : World) (r' : Rb) (A0 : Option Addr) (c0 : Nat) (A : Option Addr) (c : Nat) (hW : Jp w W b mb m1 m2 m3 k nb w.heap.size s r' A0 c0 A c nw x y) => hear_jp hW HI.out.2.2.2.1 HW.out.1 (by have := HN.out; omega)
   have hCR := fun (W : World) (hW : Jp w W b mb m1 m2 m3 k nb w.heap.size s r A0 c0 A c nw x y) => rhear_any r A0 c0 A c nw e (by have := HI.out.2.1.len; have := HN.out; omega) HI.out.2.1.sim.nd hW.lr.bel.size hW.lr.kr hW.lr.kw hW.lr.len HNW.out.2 (fun x hx => by have := HI.out.2.1.beg x hx; have := HN.out; omega) (by have := HI.out.2.1.cn; have := HN.out; omega) HW.out.2
   obtain ⟨⟨r1, cc⟩, hrr⟩ : ∃ p, rhearF r e = p := ⟨_, rfl⟩
   obtain ⟨⟨s1, cd⟩, hss⟩ : ∃ p, hearF s e = p := ⟨_, rfl⟩
   rw [hrr, hss] at hst
   rw [hss] at hws hls hsn hCH
   rw [hrr] at hCR
   simp only at hst hws hls hsn hCH
   obtain ⟨rfl, hsim⟩ := hst
   have CRH : Aside0 (∀ W, Jp w W b mb m1 m2 m3 k nb w.heap.size s r A0 c0 A c nw x y → Calls Try.prog 28 #[.agg #[.int .i64 r.m.clk, .slice A0 r.m.L.length c0, .slice A nw c], .agg (evA e)] W fun rr w' => ∃ A01 c01 A2 c2, rr = .returned (.tuple #[.agg #[.int .i64 r1.m.clk, .slice A01 r1.m.L.length c01, .slice A2 nw c2], .int .i64 cd]) ∧ KR w' w.heap.size (.slice A01 r1.m.L.length c01) r1.m.L ∧ KW w' w.heap.size (.slice A2 nw c2) r1.W ∧ Below W.heap.size W w' ∧ r1.W.length = nw) := ⟨fun W hW => (hCR W hW).mono fun _ _ h => h⟩
   have CBH := Aside0.mk hCH
   have HS := Aside0.mk (And.intro hsim (And.intro hws (And.intro hls hsn)))
   clear hws hls hsn hCH hCR hsim hrr hss he
   obtain ⟨qq, hqq⟩ : ∃ q, quietR r1.W = q := ⟨_, rfl⟩
   obtain ⟨st, hss⟩ : ∃ q, statR r1.m.L (x, y) = q := ⟨_, rfl⟩
   have CQ : Aside0 (∀ W A01 c01 A2 c2, Jp w W b mb m1 m2 m3 (k + 1) nb w.heap.size s1 r1 A01 c01 A2 c2 nw x y → Calls Try.prog 31 #[pA b] W fun r w' => r = .returned (.bool qq) ∧ W = w') := ⟨fun W A01 c01 A2 c2 hW => by obtain ⟨pf, q⟩ := hW.be; exact bquiet_any q qq (by rw [← hqq]; exact HS.out.1.quiet HS.out.2.1)⟩
   have CRQ : Aside0 (∀ W A01 c01 A2 c2, Jp w W b mb m1 m2 m3 (k + 1) nb w.heap.size s1 r1 A01 c01 A2 c2 nw x y → Calls Try.prog 32 #[.agg #[.int .i64 r1.m.clk, .slice A01 r1.m.L.length c01, .slice A2 nw c2]] W fun r w' => r = .returned (.bool qq) ∧ Below W.heap.size W w') := ⟨fun W A01 c01 A2 c2 hW => by rw [← hqq]; exact rquiet_any r1.m.clk A01 c01 r1.m.L A2 c2 nw r1.W hW.lr.len (by have := HNW.out.2; omega) hW.lr.kr hW.lr.kw⟩
   have CST : Aside0 (∀ W A01 c01 A2 c2, Jp w W b mb m1 m2 m3 (k + 1) nb w.heap.size s1 r1 A01 c01 A2 c2 nw x y → Calls Try.prog 33 #[pA mb, .agg #[.int .i64 x, .int .i64 y]] W fun r w' => r = .returned (.int .i64 st) ∧ Below W.heap.size W w') := ⟨fun W A01 c01 A2 c2 hW => by obtain ⟨pf, q⟩ := hW.be; rw [← hss, ← (HS.out.1.sim.st (x, y)).1]; exact model_status x y HXY.out.1 HXY.out.2 q.md⟩
   have CRS : Aside0 (∀ W A01 c01 A2 c2, Jp w W b mb m1 m2 m3 (k + 1) nb w.heap.size s1 r1 A01 c01 A2 c2 nw x y → Calls Try.prog 35 #[.agg #[.int .i64 r1.m.clk, .slice A01 r1.m.L.length c01], .agg #[.int .i64 x, .int .i64 y]] W fun r w' => r = .returned (.int .i64 st) ∧ Below W.heap.size W w') := ⟨fun W A01 c01 A2 c2 hW => by rw [← hss]; exact stat_calls hW.lr.kr (by have := HS.out.1.len; have := HN.out; omega) x y⟩
   have CB : Aside0 (∀ W A01 c01 A2 c2 (z : Int), (Lit.int .i64 z).wf = true → Jp w W b mb m1 m2 m3 (k + 1) nb w.heap.size s1 r1 A01 c01 A2 c2 nw x y → Calls Try.prog 36 #[pA b, .int .i64 z] W fun r w' => r = .returned (.int .i64 (busyF s1 z)) ∧ W = w') := ⟨fun W A01 c01 A2 c2 z hz hW => by obtain ⟨pf, q⟩ := hW.be; exact busy_any q z hz⟩
   have CB1 : Aside0 (∀ W A01 c01 A2 c2, Jp w W b mb m1 m2 m3 (k + 1) nb w.heap.size s1 r1 A01 c01 A2 c2 nw x y → Calls Try.prog 36 #[pA b, .int .i64 (-1)] W fun r w' => r = .returned (.int .i64 0) ∧ W = w') := ⟨fun W A01 c01 A2 c2 hW => by have q := CB.out W A01 c01 A2 c2 (-1) (by decide) hW; rwa [HS.out.1.beyond HS.out.2.1 (.inl (by decide))] at q⟩
   have CB2 : Aside0 (∀ W A01 c01 A2 c2, Jp w W b mb m1 m2 m3 (k + 1) nb w.heap.size s1 r1 A01 c01 A2 c2 nw x y → Calls Try.prog 36 #[pA b, .int .i64 (nw : Int)] W fun r w' => r = .returned (.int .i64 0) ∧ W = w') := ⟨fun W A01 c01 A2 c2 hW => by have q := CB.out W A01 c01 A2 c2 (nw : Int) (wf_near (by omega) (by have := HNW.out.2; omega)) hW; rwa [HS.out.1.beyond HS.out.2.1 (.inr (by rw [hW.lr.len]; omega))] at q⟩
   have g1 : (cd != cd) = false := by simp
   have g2 : (qq != qq) = false := by simp
   have g3 : (st != st) = false := by simp
   clear hqq hss
   replace q0 := eq_true q0
   replace p0 := eq_true p0
   have HY := Aside0.mk (show Jp w (wr.alloc (.cells (evA e) 50)) b mb m1 m2 m3 k nb w.heap.size s r A0 c0 A c nw x y ∧ _ from ⟨HI.out.1.step (below_alloc (Below.refl _ _) (.cells (evA e) 50)), blk_new wr (.cells (evA e) 50)⟩)
   have hcy := fun i => blk_cell HY.out.2 i
   have hcb := fun i => blk_cell HY.out.1.lr.b_ i
   go_wp2_with (first | (go_at_call 28; go_loud ((with_reducible refine (CRH.out _ HY.out.1).mono ?_); rintro rr w4 ⟨A01, c01, A2, c2, rfl, hk1, hw1, hb1, hl1⟩; have HY2 := Aside0.mk (And.intro (HY.out.1.step hb1) (blk_below HY.out.2 hb1)); have HK1 := Aside0.mk hk1; have HW1 := Aside0.mk hw1; have HL1 := Aside0.mk hl1; clear hcy hcb hk1 hw1 hb1 hl1)) | ((with_reducible refine gate_store (t := 46) (p := 13) rfl ?_); go_loud (refine wpList_store_row rfl 46 _ _ rfl (w4.heap.size) #[.int .i64 r1.m.clk, .slice A01 r1.m.L.length c01, .slice A2 nw c2] rfl rfl 46 _ (blk_new w4 (.cells #[.int .i64 0, .slice none 0 0, .slice none 0 0] 46)) (by kernel_rfl) rfl (by simp [Value.oneCell']) ?_; have hb5 : Below w4.heap.size w4 ((w4.alloc (.cells #[.int .i64 0, .slice none 0 0, .slice none 0 0] 46)).setRow w4.heap.size #[.int .i64 r1.m.clk, .slice A01 r1.m.L.length c01, .slice A2 nw c2]) := below_setRow (below_alloc (Below.refl _ _) _) (Nat.le_refl _) _; have HY3 := Aside0.mk (And.intro (HY2.out.1.step hb5) (blk_below HY2.out.2 hb5)); have HK2 := Aside0.mk (Kd.R_below HK1.out hb5); have HW2 := Aside0.mk (Kd.R_below HW1.out hb5); have h13 := Aside0.mk (setRow_heap (w4.alloc (.cells #[.int .i64 0, .slice none 0 0, .slice none 0 0] 46)) w4.heap.size _ #[.int .i64 r1.m.clk, .slice A01 r1.m.L.length c01, .slice A2 nw c2] 46 _ (blk_new w4 _)); have hc13 := fun i => blk_cell h13.out i; clear hb5)) | ((with_reducible refine gate_store (t := 46) (p := 9) rfl ?_); go_loud (refine wpList_store_row rfl 46 _ _ rfl (nb) #[.int .i64 r1.m.clk, .slice A01 r1.m.L.length c01, .slice A2 nw c2] rfl rfl 46 _ HY3.out.1.lr.b_ (by kernel_rfl) rfl (by simp [Value.oneCell']) ?_; have HY4 := Aside0.mk (And.intro (HY3.out.1.put HK2.out HW2.out HL1.out) ((setRow_other ((w4.alloc (.cells #[.int .i64 0, .slice none 0 0, .slice none 0 0] 46)).setRow w4.heap.size #[.int .i64 r1.m.clk, .slice A01 r1.m.L.length c01, .slice A2 nw c2]) nb wr.heap.size #[.int .i64 r1.m.clk, .slice A01 r1.m.L.length c01, .slice A2 nw c2] (types_ne HY3.out.2 HY3.out.1.lr.b_ (by decide))).trans HY3.out.2)); clear hc13)))
   have HN0 := Aside0.mk HI.out.2.2.2.2
   have HN1 := Aside0.mk HS.out.2.2.2
   refine start_ (n := 38) (S := (fun w' => (∀ i, w'.cell? ⟨wr.heap.size, i, none⟩ = (evA e)[i]?) ∧ (∀ i, w'.cell? ⟨nb, i, none⟩ = (#[.int .i64 r1.m.clk, .slice A01 r1.m.L.length c01, .slice A2 nw c2] : Array Value)[i]?) ∧ (∀ i, w'.cell? ⟨b, i, none⟩ = (beA (nw : Int) mb m3)[i]?) ∧ (∀ i, w'.cell? ⟨w.heap.size, i, none⟩ = (#[.int .i64 x, .int .i64 y] : Array Value)[i]?))) (ds := []) #[ff,ff,ff,ff,ff,ff,ff,ff,ff,ff,ff,ff,ff,ff,ff,ff,ff,ff,ff,ff,ff,ff,ff,ff,ff,ff,ff,ff,ff,ff,ff,ff,ff,ff,ff,ff,ff,ff] (by kernel_rfl) rfl rfl (HY4.out.1.drew.cells HN0.out (blk_below HY4.out.2 (below_drew (Below.refl _ _)))) (fun hHeld => ?_)
   refine with_tabW jpR.tab14 jpR.bits14 (fun HT_ HW_ => ?_)
   have H6 : Aside0 (Jp w _ b mb m1 m2 m3 k nb w.heap.size s r1 A01 c01 A2 c2 nw x y ∧ _) := Aside0.mk (And.intro HY4.out.1.drew (blk_below HY4.out.2 (below_drew (Below.refl _ _))))
   generalize (((w4.alloc (.cells #[.int .i64 0, .slice none 0 0, .slice none 0 0] 46)).setRow w4.heap.size #[.int .i64 r1.m.clk, .slice A01 r1.m.L.length c01, .slice A2 nw c2]).setRow nb #[.int .i64 r1.m.clk, .slice A01 r1.m.L.length c01, .slice A2 nw c2]).drew = w6 at H6 hHeld ⊢
   refine pure_ (i := 0) (N := (some 60)) (v := ?_) (a' := ?_) #[tt,ff,ff,ff,ff,ff,ff,ff,ff,ff,ff,ff,ff,ff,ff,ff,ff,ff,ff,ff,ff,ff,ff,ff,ff,ff,ff,ff,ff,ff,ff,ff,ff,ff,ff,ff,ff,ff] rfl rfl (any_of HT_.out (by kernel_rfl)) (fun _ _ _ h => h) (Or.inl ⟨by rfl, ?_⟩) ?_ ?_
   rotate_left
   ·intro w'
    go_simp
    with_reducible rfl
   rotate_left
   ·simp only [Act.put, sQ0, sQ1, sQ2, i64_w]
    rfl
   refine pure_ (i := 4) (N := (some 64)) (v := ?_) (a' := ?_) #[tt,ff,ff,ff,tt,ff,ff,ff,ff,ff,ff,ff,ff,ff,ff,ff,ff,ff,ff,ff,ff,ff,ff,ff,ff,ff,ff,ff,ff,ff,ff,ff,ff,ff,ff,ff,ff,ff] rfl rfl (any_of HT_.out (by kernel_rfl)) (fun _ _ _ h => h) (Or.inl ⟨by rfl, ?_⟩) ?_ ?_
   rotate_left
   ·intro w'
    go_simp
    with_reducible rfl
   rotate_left
   ·simp only [Act.put, sQ0, sQ1, sQ2, i64_w]
    rfl
   refine take_ (i := 1) (N := (some 61)) (v := ?_) (a' := ?_) #[tt,tt,ff,ff,tt,ff,ff,ff,ff,ff,ff,ff,ff,ff,ff,ff,ff,ff,ff,ff,ff,ff,ff,ff,ff,ff,ff,ff,ff,ff,ff,ff,ff,ff,ff,ff,ff,ff] rfl rfl (take_ofW HT_.out HW_.out (by kernel_rfl)) (fun _ _ _ h => h) (Or.inl ⟨by rfl, ?_⟩) hHeld ?_ ?_
   rotate_left
   ·rintro w' ⟨s0, s1, s2, s3⟩
    go_simp
    with_reducible rfl
   rotate_left
   ·simp only [Act.put, sQ0, sQ1, sQ2, i64_w]
    rfl
   refine one_ (i := 2) (N := (some 62)) #[tt,tt,tt,ff,tt,ff,ff,ff,ff,ff,ff,ff,ff,ff,ff,ff,ff,ff,ff,ff,ff,ff,ff,ff,ff,ff,ff,ff,ff,ff,ff,ff,ff,ff,ff,ff,ff,ff] rfl rfl (one_of HT_.out (by kernel_rfl)) (by decide) (fun K hK => ?_)
   refine call_ (f := 30) #[.agg (evA e)] (by rfl) rfl (by go_simp <;> rfl) ?_
   refine (of_ev e w6).mono ?_
   rintro rr w7 ⟨rfl, hb⟩
   refine ⟨_, rfl, ?_⟩
   have H7 := Aside0.mk (And.intro (H6.out.1.step hb) (blk_below H6.out.2 hb))
   clear hb
   refine hK.out _ _ (H7.out.1.cells HN0.out H7.out.2) (fun hHeld => ?_)
   clear hK K
   refine norm_ (a' := ?_) ?_ ?_
   rotate_left
   ·show Act.put _ (some 62) _ = _
    simp only [Act.put, sQ0, sQ1, sQ2, i64_w]
    rfl
   refine one_ (i := 3) (N := (some 63)) #[tt,tt,tt,tt,tt,ff,ff,ff,ff,ff,ff,ff,ff,ff,ff,ff,ff,ff,ff,ff,ff,ff,ff,ff,ff,ff,ff,ff,ff,ff,ff,ff,ff,ff,ff,ff,ff,ff] rfl rfl (one_of HT_.out (by kernel_rfl)) (by decide) (fun K hK => ?_)
   refine call_ (f := 29) #[pA b, .agg (evA e)] (by rfl) rfl (by go_simp <;> rfl) ?_
   refine (CBH.out w7 _ _ _ _ _ H7.out.1).mono ?_
   rintro rr w8 ⟨rfl, hj, hf⟩
   refine ⟨_, rfl, ?_⟩
   have H8 := Aside0.mk (And.intro hj ((hf _ _ _ H7.out.2 (by decide) (by decide)).trans H7.out.2))
   clear hj hf
   refine hK.out _ _ (H8.out.1.cells HN1.out H8.out.2) (fun hHeld => ?_)
   clear hK K
   refine norm_ (a' := ?_) ?_ ?_
   rotate_left
   ·show Act.put _ (some 63) _ = _
    simp only [Act.put, sQ0, sQ1, sQ2, i64_w]
    rfl
   refine pure_ (i := 5) (N := (some 65)) (v := ?_) (a' := ?_) #[tt,tt,tt,tt,tt,tt,ff,ff,ff,ff,ff,ff,ff,ff,ff,ff,ff,ff,ff,ff,ff,ff,ff,ff,ff,ff,ff,ff,ff,ff,ff,ff,ff,ff,ff,ff,ff,ff] rfl rfl (any_of HT_.out (by kernel_rfl)) (fun _ _ _ h => h) (Or.inl ⟨by rfl, ?_⟩) ?_ ?_
   rotate_left
   ·intro w'
    go_simp
    with_reducible rfl
   rotate_left
   ·simp only [Act.put, sQ0, sQ1, sQ2, i64_w]
    rfl
   refine pure_ (i := 6) (N := (some 66)) (v := ?_) (a' := ?_) #[tt,tt,tt,tt,tt,tt,tt,ff,ff,ff,ff,ff,ff,ff,ff,ff,ff,ff,ff,ff,ff,ff,ff,ff,ff,ff,ff,ff,ff,ff,ff,ff,ff,ff,ff,ff,ff,ff] rfl rfl (any_of HT_.out (by kernel_rfl)) (fun _ _ _ h => h) (Or.inl ⟨by rfl, ?_⟩) ?_ ?_
   rotate_left
   ·intro w'
    go_simp
    with_reducible rfl
   rotate_left
   ·simp only [Act.put, sQ0, sQ1, sQ2, i64_w]
    rfl
   refine pure_ (i := 7) (N := (some 67)) (v := ?_) (a' := ?_) #[tt,tt,tt,tt,tt,tt,tt,tt,ff,ff,ff,ff,ff,ff,ff,ff,ff,ff,ff,ff,ff,ff,ff,ff,ff,ff,ff,ff,ff,ff,ff,ff,ff,ff,ff,ff,ff,ff] rfl rfl (any_of HT_.out (by kernel_rfl)) (fun _ _ _ h => h) (Or.inl ⟨by rfl, ?_⟩) ?_ ?_
   rotate_left
   ·intro w'
    go_simp
    with_reducible rfl
   rotate_left
   ·simp only [Act.put, sQ0, sQ1, sQ2, i64_w]
    rfl
   refine take_ (i := 9) (N := (some 69)) (v := ?_) (a' := ?_) #[tt,tt,tt,tt,tt,tt,tt,tt,ff,tt,ff,ff,ff,ff,ff,ff,ff,ff,ff,ff,ff,ff,ff,ff,ff,ff,ff,ff,ff,ff,ff,ff,ff,ff,ff,ff,ff,ff] rfl rfl (take_ofW HT_.out HW_.out (by kernel_rfl)) (fun _ _ _ h => h) (Or.inl ⟨by rfl, ?_⟩) hHeld ?_ ?_
   rotate_left
   ·rintro w' ⟨s0, s1, s2, s3⟩
    go_simp
    with_reducible rfl
   rotate_left
   ·simp only [Act.put, sQ0, sQ1, sQ2, i64_w]
    rfl
   refine one_ (i := 8) (N := (some 68)) #[tt,tt,tt,tt,tt,tt,tt,tt,tt,tt,ff,ff,ff,ff,ff,ff,ff,ff,ff,ff,ff,ff,ff,ff,ff,ff,ff,ff,ff,ff,ff,ff,ff,ff,ff,ff,ff,ff] rfl rfl (one_of HT_.out (by kernel_rfl)) (by decide) (fun K hK => ?_)
   refine call_ (f := 31) #[pA b] (by rfl) rfl (by go_simp <;> rfl) ?_
   refine (CQ.out w8 _ _ _ _ H8.out.1).mono ?_
   rintro rr w9 ⟨rfl, rfl⟩
   refine ⟨_, rfl, ?_⟩
   refine hK.out _ _ (H8.out.1.cells HN1.out H8.out.2) (fun hHeld => ?_)
   clear hK K
   refine norm_ (a' := ?_) ?_ ?_
   rotate_left
   ·show Act.put _ (some 68) _ = _
    simp only [Act.put, sQ0, sQ1, sQ2, i64_w]
    rfl
   refine one_ (i := 10) (N := (some 70)) #[tt,tt,tt,tt,tt,tt,tt,tt,tt,tt,tt,ff,ff,ff,ff,ff,ff,ff,ff,ff,ff,ff,ff,ff,ff,ff,ff,ff,ff,ff,ff,ff,ff,ff,ff,ff,ff,ff] rfl rfl (one_of HT_.out (by kernel_rfl)) (by decide) (fun K hK => ?_)
   refine call_ (f := 32) #[.agg #[.int .i64 r1.m.clk, .slice A01 r1.m.L.length c01, .slice A2 nw c2]] (by rfl) rfl (by go_simp <;> rfl) ?_
   refine (CRQ.out w8 _ _ _ _ H8.out.1).mono ?_
   rintro rr w9 ⟨rfl, hb⟩
   refine ⟨_, rfl, ?_⟩
   have H9 := Aside0.mk (And.intro (H8.out.1.step hb) (blk_below H8.out.2 hb))
   clear hb
   refine hK.out _ _ (H9.out.1.cells HN1.out H9.out.2) (fun hHeld => ?_)
   clear hK K
   refine norm_ (a' := ?_) ?_ ?_
   rotate_left
   ·show Act.put _ (some 70) _ = _
    simp only [Act.put, sQ0, sQ1, sQ2, i64_w]
    rfl
   refine pure_ (i := 11) (N := (some 71)) (v := ?_) (a' := ?_) #[tt,tt,tt,tt,tt,tt,tt,tt,tt,tt,tt,tt,ff,ff,ff,ff,ff,ff,ff,ff,ff,ff,ff,ff,ff,ff,ff,ff,ff,ff,ff,ff,ff,ff,ff,ff,ff,ff] rfl rfl (any_of HT_.out (by kernel_rfl)) (fun _ _ _ h => h) (Or.inl ⟨by rfl, ?_⟩) ?_ ?_
   rotate_left
   ·intro w'
    go_simp
    with_reducible rfl
   rotate_left
   ·simp only [Act.put, sQ0, sQ1, sQ2, i64_w]
    rfl
   refine pure_ (i := 12) (N := (some 72)) (v := ?_) (a' := ?_) #[tt,tt,tt,tt,tt,tt,tt,tt,tt,tt,tt,tt,tt,ff,ff,ff,ff,ff,ff,ff,ff,ff,ff,ff,ff,ff,ff,ff,ff,ff,ff,ff,ff,ff,ff,ff,ff,ff] rfl rfl (any_of HT_.out (by kernel_rfl)) (fun _ _ _ h => h) (Or.inl ⟨by rfl, ?_⟩) ?_ ?_
   rotate_left
   ·intro w'
    go_simp
    with_reducible rfl
   rotate_left
   ·simp only [Act.put, sQ0, sQ1, sQ2, i64_w]
    rfl
   refine pure_ (i := 13) (N := (some 73)) (v := ?_) (a' := ?_) #[tt,tt,tt,tt,tt,tt,tt,tt,tt,tt,tt,tt,tt,tt,ff,ff,ff,ff,ff,ff,ff,ff,ff,ff,ff,ff,ff,ff,ff,ff,ff,ff,ff,ff,ff,ff,ff,ff] rfl rfl (any_of HT_.out (by kernel_rfl)) (fun _ _ _ h => h) (Or.inl ⟨by rfl, ?_⟩) ?_ ?_
   rotate_left
   ·intro w'
    go_simp
    with_reducible rfl
   rotate_left
   ·simp only [Act.put, sQ0, sQ1, sQ2, i64_w]
    rfl
   refine pure_ (i := 14) (N := (some 74)) (v := ?_) (a' := ?_) #[tt,tt,tt,tt,tt,tt,tt,tt,tt,tt,tt,tt,tt,tt,tt,ff,ff,ff,ff,ff,ff,ff,ff,ff,ff,ff,ff,ff,ff,ff,ff,ff,ff,ff,ff,ff,ff,ff] rfl rfl (any_of HT_.out (by kernel_rfl)) (fun _ _ _ h => h) (Or.inl ⟨by rfl, ?_⟩) ?_ ?_
   rotate_left
   ·intro w'
    go_simp
    with_reducible rfl
   rotate_left
   ·simp only [Act.put, sQ0, sQ1, sQ2, i64_w]
    rfl
   refine pure_ (i := 15) (N := (some 75)) (v := ?_) (a' := ?_) #[tt,tt,tt,tt,tt,tt,tt,tt,tt,tt,tt,tt,tt,tt,tt,tt,ff,ff,ff,ff,ff,ff,ff,ff,ff,ff,ff,ff,ff,ff,ff,ff,ff,ff,ff,ff,ff,ff] rfl rfl (any_of HT_.out (by kernel_rfl)) (fun _ _ _ h => h) (Or.inl ⟨by rfl, ?_⟩) ?_ ?_
   rotate_left
   ·intro w'
    go_simp
    with_reducible rfl
   rotate_left
   ·simp only [Act.put, sQ0, sQ1, sQ2, i64_w]
    rfl
   refine pure_ (i := 16) (N := (some 76)) (v := ?_) (a' := ?_) #[tt,tt,tt,tt,tt,tt,tt,tt,tt,tt,tt,tt,tt,tt,tt,tt,tt,ff,ff,ff,ff,ff,ff,ff,ff,ff,ff,ff,ff,ff,ff,ff,ff,ff,ff,ff,ff,ff] rfl rfl (any_of HT_.out (by kernel_rfl)) (fun _ _ _ h => h) (Or.inl ⟨by rfl, ?_⟩) ?_ ?_
   rotate_left
   ·intro w'
    go_simp
    with_reducible rfl
   rotate_left
   ·simp only [Act.put, sQ0, sQ1, sQ2, i64_w]
    rfl
   refine pure_ (i := 21) (N := (some 81)) (v := ?_) (a' := ?_) #[tt,tt,tt,tt,tt,tt,tt,tt,tt,tt,tt,tt,tt,tt,tt,tt,tt,ff,ff,ff,ff,tt,ff,ff,ff,ff,ff,ff,ff,ff,ff,ff,ff,ff,ff,ff,ff,ff] rfl rfl (any_of HT_.out (by kernel_rfl)) (fun _ _ _ h => h) (Or.inl ⟨by rfl, ?_⟩) ?_ ?_
   rotate_left
   ·intro w'
    go_simp
    with_reducible rfl
   rotate_left
   ·simp only [Act.put, sQ0, sQ1, sQ2, i64_w]
    rfl
   refine take_ (i := 17) (N := (some 77)) (v := ?_) (a' := ?_) #[tt,tt,tt,tt,tt,tt,tt,tt,tt,tt,tt,tt,tt,tt,tt,tt,tt,tt,ff,ff,ff,tt,ff,ff,ff,ff,ff,ff,ff,ff,ff,ff,ff,ff,ff,ff,ff,ff] rfl rfl (take_ofW HT_.out HW_.out (by kernel_rfl)) (fun _ _ _ h => h) (Or.inl ⟨by rfl, ?_⟩) hHeld ?_ ?_
   rotate_left
   ·rintro w' ⟨s0, s1, s2, s3⟩
    go_simp
    with_reducible rfl
   rotate_left
   ·simp only [Act.put, sQ0, sQ1, sQ2, i64_w]
    rfl
   refine take_ (i := 18) (N := (some 78)) (v := ?_) (a' := ?_) #[tt,tt,tt,tt,tt,tt,tt,tt,tt,tt,tt,tt,tt,tt,tt,tt,tt,tt,tt,ff,ff,tt,ff,ff,ff,ff,ff,ff,ff,ff,ff,ff,ff,ff,ff,ff,ff,ff] rfl rfl (take_ofW HT_.out HW_.out (by kernel_rfl)) (fun _ _ _ h => h) (Or.inl ⟨by rfl, ?_⟩) hHeld ?_ ?_
   rotate_left
   ·rintro w' ⟨s0, s1, s2, s3⟩
    go_simp
    with_reducible rfl
   rotate_left
   ·simp only [Act.put, sQ0, sQ1, sQ2, i64_w]
    rfl
   refine take_ (i := 22) (N := (some 82)) (v := ?_) (a' := ?_) #[tt,tt,tt,tt,tt,tt,tt,tt,tt,tt,tt,tt,tt,tt,tt,tt,tt,tt,tt,ff,ff,tt,tt,ff,ff,ff,ff,ff,ff,ff,ff,ff,ff,ff,ff,ff,ff,ff] rfl rfl (take_ofW HT_.out HW_.out (by kernel_rfl)) (fun _ _ _ h => h) (Or.inl ⟨by rfl, ?_⟩) hHeld ?_ ?_
   rotate_left
   ·rintro w' ⟨s0, s1, s2, s3⟩
    go_simp
    with_reducible rfl
   rotate_left
   ·simp only [Act.put, sQ0, sQ1, sQ2, i64_w]
    rfl
   refine take_ (i := 23) (N := (some 83)) (v := ?_) (a' := ?_) #[tt,tt,tt,tt,tt,tt,tt,tt,tt,tt,tt,tt,tt,tt,tt,tt,tt,tt,tt,ff,ff,tt,tt,tt,ff,ff,ff,ff,ff,ff,ff,ff,ff,ff,ff,ff,ff,ff] rfl rfl (take_ofW HT_.out HW_.out (by kernel_rfl)) (fun _ _ _ h => h) (Or.inl ⟨by rfl, ?_⟩) hHeld ?_ ?_
   rotate_left
   ·rintro w' ⟨s0, s1, s2, s3⟩
    go_simp
    with_reducible rfl
   rotate_left
   ·simp only [Act.put, sQ0, sQ1, sQ2, i64_w]
    rfl
   refine one_ (i := 19) (N := (some 79)) #[tt,tt,tt,tt,tt,tt,tt,tt,tt,tt,tt,tt,tt,tt,tt,tt,tt,tt,tt,tt,ff,tt,tt,tt,ff,ff,ff,ff,ff,ff,ff,ff,ff,ff,ff,ff,ff,ff] rfl rfl (one_of HT_.out (by kernel_rfl)) (by decide) (fun K hK => ?_)
   refine call_ (f := 34) #[.agg #[.int .i64 x, .int .i64 y]] (by rfl) rfl (by go_simp <;> rfl) ?_
   refine (of_ha x y w9).mono ?_
   rintro rr w10 ⟨rfl, hb⟩
   refine ⟨_, rfl, ?_⟩
   have H10 := Aside0.mk (And.intro (H9.out.1.step hb) (blk_below H9.out.2 hb))
   clear hb
   refine hK.out _ _ (H10.out.1.cells HN1.out H10.out.2) (fun hHeld => ?_)
   clear hK K
   refine norm_ (a' := ?_) ?_ ?_
   rotate_left
   ·show Act.put _ (some 79) _ = _
    simp only [Act.put, sQ0, sQ1, sQ2, i64_w]
    rfl
   refine one_ (i := 20) (N := (some 80)) #[tt,tt,tt,tt,tt,tt,tt,tt,tt,tt,tt,tt,tt,tt,tt,tt,tt,tt,tt,tt,tt,tt,tt,tt,ff,ff,ff,ff,ff,ff,ff,ff,ff,ff,ff,ff,ff,ff] rfl rfl (one_of HT_.out (by kernel_rfl)) (by decide) (fun K hK => ?_)
   refine call_ (f := 33) #[pA mb, .agg #[.int .i64 x, .int .i64 y]] (by rfl) rfl (by go_simp <;> rfl) ?_
   refine (CST.out w10 _ _ _ _ H10.out.1).mono ?_
   rintro rr w11 ⟨rfl, hb⟩
   refine ⟨_, rfl, ?_⟩
   have H11 := Aside0.mk (And.intro (H10.out.1.step hb) (blk_below H10.out.2 hb))
   clear hb
   refine hK.out _ _ (H11.out.1.cells HN1.out H11.out.2) (fun hHeld => ?_)
   clear hK K
   refine norm_ (a' := ?_) ?_ ?_
   rotate_left
   ·show Act.put _ (some 80) _ = _
    simp only [Act.put, sQ0, sQ1, sQ2, i64_w]
    rfl
   refine one_ (i := 24) (N := (some 84)) #[tt,tt,tt,tt,tt,tt,tt,tt,tt,tt,tt,tt,tt,tt,tt,tt,tt,tt,tt,tt,tt,tt,tt,tt,tt,ff,ff,ff,ff,ff,ff,ff,ff,ff,ff,ff,ff,ff] rfl rfl (one_of HT_.out (by kernel_rfl)) (by decide) (fun K hK => ?_)
   refine call_ (f := 35) #[.agg #[.int .i64 r1.m.clk, .slice A01 r1.m.L.length c01], .agg #[.int .i64 x, .int .i64 y]] (by rfl) rfl (by go_simp <;> rfl) ?_
   refine (CRS.out w11 _ _ _ _ H11.out.1).mono ?_
   rintro rr w12 ⟨rfl, hb⟩
   refine ⟨_, rfl, ?_⟩
   have H12 := Aside0.mk (And.intro (H11.out.1.step hb) (blk_below H11.out.2 hb))
   clear hb
   refine hK.out _ _ (H12.out.1.cells HN1.out H12.out.2) (fun hHeld => ?_)
   clear hK K
   refine norm_ (a' := ?_) ?_ ?_
   rotate_left
   ·show Act.put _ (some 84) _ = _
    simp only [Act.put, sQ0, sQ1, sQ2, i64_w]
    rfl
   refine pure_ (i := 25) (N := (some 85)) (v := ?_) (a' := ?_) #[tt,tt,tt,tt,tt,tt,tt,tt,tt,tt,tt,tt,tt,tt,tt,tt,tt,tt,tt,tt,tt,tt,tt,tt,tt,tt,ff,ff,ff,ff,ff,ff,ff,ff,ff,ff,ff,ff] rfl rfl (any_of HT_.out (by kernel_rfl)) (fun _ _ _ h => h) (Or.inl ⟨by rfl, ?_⟩) ?_ ?_
   rotate_left
   ·intro w'
    go_simp
    with_reducible rfl
   rotate_left
   ·simp only [Act.put, sQ0, sQ1, sQ2, i64_w]
    rfl
   refine pure_ (i := 26) (N := (some 86)) (v := ?_) (a' := ?_) #[tt,tt,tt,tt,tt,tt,tt,tt,tt,tt,tt,tt,tt,tt,tt,tt,tt,tt,tt,tt,tt,tt,tt,tt,tt,tt,tt,ff,ff,ff,ff,ff,ff,ff,ff,ff,ff,ff] rfl rfl (any_of HT_.out (by kernel_rfl)) (fun _ _ _ h => h) (Or.inl ⟨by rfl, ?_⟩) ?_ ?_
   rotate_left
   ·intro w'
    go_simp
    with_reducible rfl
   rotate_left
   ·simp only [Act.put, sQ0, sQ1, sQ2, i64_w]
    rfl
   refine pure_ (i := 27) (N := (some 87)) (v := ?_) (a' := ?_) #[tt,tt,tt,tt,tt,tt,tt,tt,tt,tt,tt,tt,tt,tt,tt,tt,tt,tt,tt,tt,tt,tt,tt,tt,tt,tt,tt,tt,ff,ff,ff,ff,ff,ff,ff,ff,ff,ff] rfl rfl (any_of HT_.out (by kernel_rfl)) (fun _ _ _ h => h) (Or.inl ⟨by rfl, ?_⟩) ?_ ?_
   rotate_left
   ·intro w'
    go_simp
    with_reducible rfl
   rotate_left
   ·simp only [Act.put, sQ0, sQ1, sQ2, i64_w]
    rfl
   refine pure_ (i := 28) (N := (some 88)) (v := ?_) (a' := ?_) #[tt,tt,tt,tt,tt,tt,tt,tt,tt,tt,tt,tt,tt,tt,tt,tt,tt,tt,tt,tt,tt,tt,tt,tt,tt,tt,tt,tt,tt,ff,ff,ff,ff,ff,ff,ff,ff,ff] rfl rfl (any_of HT_.out (by kernel_rfl)) (fun _ _ _ h => h) (Or.inl ⟨by rfl, ?_⟩) ?_ ?_
   rotate_left
   ·intro w'
    go_simp
    with_reducible rfl
   rotate_left
   ·simp only [Act.put, sQ0, sQ1, sQ2, i64_w]
    rfl
   refine one_ (i := 29) (N := (some 89)) #[tt,tt,tt,tt,tt,tt,tt,tt,tt,tt,tt,tt,tt,tt,tt,tt,tt,tt,tt,tt,tt,tt,tt,tt,tt,tt,tt,tt,tt,tt,ff,ff,ff,ff,ff,ff,ff,ff] rfl rfl (one_of HT_.out (by kernel_rfl)) (by decide) (fun K hK => ?_)
   refine call_ (f := 36) #[pA b, .int .i64 (-1)] (by rfl) rfl (by go_simp <;> rfl) ?_
   refine (CB1.out w12 _ _ _ _ H12.out.1).mono ?_
   rintro rr w13 ⟨rfl, rfl⟩
   refine ⟨_, rfl, ?_⟩
   refine hK.out _ _ (H12.out.1.cells HN1.out H12.out.2) (fun hHeld => ?_)
   clear hK K
   refine norm_ (a' := ?_) ?_ ?_
   rotate_left
   ·show Act.put _ (some 89) _ = _
    simp only [Act.put, sQ0, sQ1, sQ2, i64_w]
    rfl
   refine pure_ (i := 30) (N := (some 90)) (v := ?_) (a' := ?_) #[tt,tt,tt,tt,tt,tt,tt,tt,tt,tt,tt,tt,tt,tt,tt,tt,tt,tt,tt,tt,tt,tt,tt,tt,tt,tt,tt,tt,tt,tt,tt,ff,ff,ff,ff,ff,ff,ff] rfl rfl (any_of HT_.out (by kernel_rfl)) (fun _ _ _ h => h) (Or.inl ⟨by rfl, ?_⟩) ?_ ?_
   rotate_left
   ·intro w'
    go_simp
    with_reducible rfl
   rotate_left
   ·simp only [Act.put, sQ0, sQ1, sQ2, i64_w]
    rfl
   refine pure_ (i := 31) (N := (some 91)) (v := ?_) (a' := ?_) #[tt,tt,tt,tt,tt,tt,tt,tt,tt,tt,tt,tt,tt,tt,tt,tt,tt,tt,tt,tt,tt,tt,tt,tt,tt,tt,tt,tt,tt,tt,tt,tt,ff,ff,ff,ff,ff,ff] rfl rfl (any_of HT_.out (by kernel_rfl)) (fun _ _ _ h => h) (Or.inl ⟨by rfl, ?_⟩) ?_ ?_
   rotate_left
   ·intro w'
    go_simp
    with_reducible rfl
   rotate_left
   ·simp only [Act.put, sQ0, sQ1, sQ2, i64_w]
    rfl
   refine pure_ (i := 32) (N := (some 92)) (v := ?_) (a' := ?_) #[tt,tt,tt,tt,tt,tt,tt,tt,tt,tt,tt,tt,tt,tt,tt,tt,tt,tt,tt,tt,tt,tt,tt,tt,tt,tt,tt,tt,tt,tt,tt,tt,tt,ff,ff,ff,ff,ff] rfl rfl (any_of HT_.out (by kernel_rfl)) (fun _ _ _ h => h) (Or.inl ⟨by rfl, ?_⟩) ?_ ?_
   rotate_left
   ·intro w'
    go_simp
    with_reducible rfl
   rotate_left
   ·simp only [Act.put, sQ0, sQ1, sQ2, i64_w]
    rfl
   refine pure_ (i := 33) (N := (some 93)) (v := ?_) (a' := ?_) #[tt,tt,tt,tt,tt,tt,tt,tt,tt,tt,tt,tt,tt,tt,tt,tt,tt,tt,tt,tt,tt,tt,tt,tt,tt,tt,tt,tt,tt,tt,tt,tt,tt,tt,ff,ff,ff,ff] rfl rfl (any_of HT_.out (by kernel_rfl)) (fun _ _ _ h => h) (Or.inl ⟨by rfl, ?_⟩) ?_ ?_
   rotate_left
   ·intro w'
    go_simp
    with_reducible rfl
   rotate_left
   ·simp only [Act.put, sQ0, sQ1, sQ2, i64_w]
    rfl
   refine pure_ (i := 34) (N := (some 94)) (v := ?_) (a' := ?_) #[tt,tt,tt,tt,tt,tt,tt,tt,tt,tt,tt,tt,tt,tt,tt,tt,tt,tt,tt,tt,tt,tt,tt,tt,tt,tt,tt,tt,tt,tt,tt,tt,tt,tt,tt,ff,ff,ff] rfl rfl (any_of HT_.out (by kernel_rfl)) (fun _ _ _ h => h) (Or.inl ⟨by rfl, ?_⟩) ?_ ?_
   rotate_left
   ·intro w'
    go_simp
    with_reducible rfl
   rotate_left
   ·simp only [Act.put, sQ0, sQ1, sQ2, i64_w]
    rfl
   refine one_ (i := 35) (N := (some 95)) #[tt,tt,tt,tt,tt,tt,tt,tt,tt,tt,tt,tt,tt,tt,tt,tt,tt,tt,tt,tt,tt,tt,tt,tt,tt,tt,tt,tt,tt,tt,tt,tt,tt,tt,tt,tt,ff,ff] rfl rfl (one_of HT_.out (by kernel_rfl)) (by decide) (fun K hK => ?_)
   refine call_ (f := 36) #[pA b, .int .i64 (nw : Int)] (by rfl) rfl (by go_simp <;> rfl) ?_
   refine (CB2.out w12 _ _ _ _ H12.out.1).mono ?_
   rintro rr w13 ⟨rfl, rfl⟩
   refine ⟨_, rfl, ?_⟩
   refine hK.out _ _ (H12.out.1.cells HN1.out H12.out.2) (fun hHeld => ?_)
   clear hK K
   refine norm_ (a' := ?_) ?_ ?_
   rotate_left
   ·show Act.put _ (some 95) _ = _
    simp only [Act.put, sQ0, sQ1, sQ2, i64_w]
    rfl
   refine pure_ (i := 36) (N := (some 96)) (v := ?_) (a' := ?_) #[tt,tt,tt,tt,tt,tt,tt,tt,tt,tt,tt,tt,tt,tt,tt,tt,tt,tt,tt,tt,tt,tt,tt,tt,tt,tt,tt,tt,tt,tt,tt,tt,tt,tt,tt,tt,tt,ff] rfl rfl (any_of HT_.out (by kernel_rfl)) (fun _ _ _ h => h) (Or.inl ⟨by rfl, ?_⟩) ?_ ?_
   rotate_left
   ·intro w'
    go_simp
    with_reducible rfl
   rotate_left
   ·simp only [Act.put, sQ0, sQ1, sQ2, i64_w]
    rfl
   refine pure_ (i := 37) (N := (some 97)) (v := ?_) (a' := ?_) #[tt,tt,tt,tt,tt,tt,tt,tt,tt,tt,tt,tt,tt,tt,tt,tt,tt,tt,tt,tt,tt,tt,tt,tt,tt,tt,tt,tt,tt,tt,tt,tt,tt,tt,tt,tt,tt,tt] rfl rfl (any_of HT_.out (by kernel_rfl)) (fun _ _ _ h => h) (Or.inl ⟨by rfl, ?_⟩) ?_ ?_
   rotate_left
   ·intro w'
    go_simp
    with_reducible rfl
   rotate_left
   ·simp only [Act.put, sQ0, sQ1, sQ2, i64_w]
    rfl
   refine done_ (done_of HT_.out (by kernel_rfl)) ?_
   clear hHeld
   have hcn := fun i => blk_cell H12.out.1.lr.b_ i
   go_wp2
   have HQ0 := Aside0.mk H12.out.1
   clear hcn H6 H7 H8 H9 H10 H11 H12 HY4 HY3 HY2 HY CRH CBH CQ CRQ CST CRS CB1 CB2 d0 d1 d2 d3 d4 d5 d6 d7 d8 d9 d10 d11
   go_loopw [101] (fun v wq => ∃ j : Nat, j ≤ nw ∧ v = .int .i64 j ∧ Aside0 (Jp w wq b mb m1 m2 m3 (k + 1) nb w.heap.size s1 r1 A01 c01 A2 c2 nw x y)) (fun v _ => nw - (intOf v).toNat)
   case atStart => exact ⟨0, by omega, rfl, HQ0⟩
   case round =>
    clear HQ0
    obtain ⟨j, hj, rfl, HQ⟩ := hrel
    rcases Nat.lt_or_ge j nw with hjl | hjg
    ·have HJL := Aside0.mk hjl
     have pj : (0 : Int) ≤ (j : Int) := by omega
     have qj : ((j : Int) < (nw : Int)) = True := eq_true (by omega)
     have hjj : wrap64 ((j : Int) + 1) = ((j + 1 : Nat) : Int) := by have := HNW.out.2; unfold wrap64; omega
     obtain ⟨g, rfl, _, _⟩ := work_at HQ.out.lr.len HQ.out.lr.kw (i := (j : Int)) (by omega) (by omega)
     obtain ⟨xw, hxw⟩ : ∃ x, rd_T66 r1.W (j : Int) = x := ⟨_, rfl⟩
     have HXX := Aside0.mk hxw
     obtain ⟨bz, hbz⟩ : ∃ z, xw.f0.f2 = z := ⟨_, rfl⟩
     have HBZ := Aside0.mk hbz
     have CBJ : Aside0 (∀ W, Jp w W b mb m1 m2 m3 (k + 1) nb w.heap.size s1 r1 A01 c01 (some ⟨g, 0, none⟩) c2 nw x y → Calls Try.prog 36 #[pA b, .int .i64 (j : Int)] W fun r w' => r = .returned (.int .i64 bz) ∧ W = w') := ⟨fun W hW => by have q := CB.out W _ _ _ _ (j : Int) (wf_near (by omega) (by have := HNW.out.2; omega)) hW; rwa [HS.out.1.busy (show r1.W[j]? = some xw by rw [← hxw, rd66_at (by have := HQ.out.lr.len; omega)]; exact List.getElem?_eq_getElem _), hbz] at q⟩
     have g4 : (bz != bz) = false := by simp
     clear hxw hbz hjl hj
     replace pj := eq_true pj
     go_upto_region 19 with (first | ((with_reducible refine Go.Proofs.Ythniclbmpeklmaa.Ev.gate_load (t := 66) (p := 104) rfl ?_); go_loud (refine wpList_load_at rfl 66 _ rfl g (j * 26) ?hx (wA xw) _ ?hc hu3 rfl (wA_info xw) ?_; (case hx => rfl); (case hc => obtain ⟨g2, q, _, q2⟩ := work_at HQ.out.lr.len HQ.out.lr.kw (i := (j : Int)) (by omega) (by have := HJL.out; omega); rw [HXX.out] at q2; obtain rfl : g = g2 := (by injection q with q; injection q); exact q2))) | ((with_reducible refine gate_store (t := 66) (p := 16) rfl ?_); go_loud (refine wpList_store_row rfl 66 _ _ rfl (wr.heap.size) (wA xw) rfl rfl 66 _ (blk_new wr (.cells #[.int .i64 0, .int .i64 0, .int .i64 0, .int .i64 0, .int .i64 0, .int .i64 0, .int .i64 0, .int .i64 0, .int .i64 0, .int .i64 0, .bool false, .int .i64 0, .int .i64 0, .bool false, .int .i64 0, .int .i64 0, .int .i64 0, .int .i64 0, .int .i64 0, .int .i64 0, .int .i64 0, .int .i64 0, .int .i64 0, .int .i64 0, .bool false, .int .i64 0] 66)) (wA_info xw) rfl (wA_one xw) ?_; have hb6 := (show Below wr.heap.size wr ((wr.alloc (.cells #[.int .i64 0, .int .i64 0, .int .i64 0, .int .i64 0, .int .i64 0, .int .i64 0, .int .i64 0, .int .i64 0, .int .i64 0, .int .i64 0, .bool false, .int .i64 0, .int .i64 0, .bool false, .int .i64 0, .int .i64 0, .int .i64 0, .int .i64 0, .int .i64 0, .int .i64 0, .int .i64 0, .int .i64 0, .int .i64 0, .int .i64 0, .bool false, .int .i64 0] 66)).setRow wr.heap.size (wA xw)) from below_setRow (below_alloc (Below.refl _ _) _) (Nat.le_refl _) _); have HQ2 := Aside0.mk (And.intro (HQ.out.step hb6) (setRow_heap (wr.alloc (.cells #[.int .i64 0, .int .i64 0, .int .i64 0, .int .i64 0, .int .i64 0, .int .i64 0, .int .i64 0, .int .i64 0, .int .i64 0, .int .i64 0, .bool false, .int .i64 0, .int .i64 0, .bool false, .int .i64 0, .int .i64 0, .int .i64 0, .int .i64 0, .int .i64 0, .int .i64 0, .int .i64 0, .int .i64 0, .int .i64 0, .int .i64 0, .bool false, .int .i64 0] 66)) wr.heap.size _ (wA xw) 66 _ (blk_new wr _))); clear hb6)))
     refine start_ (n := 7) (S := (fun w' => w'.cell? ⟨wr.heap.size, 2, none⟩ = some (.int .i64 bz))) (ds := []) #[ff,ff,ff,ff,ff,ff,ff] (by kernel_rfl) rfl rfl (show World.cell? _ ⟨wr.heap.size, 2, none⟩ = some (.int .i64 bz) from (blk_cell (blk_below HQ2.out.2 (below_drew (Below.refl _ _))) 2).trans (by rw [← HBZ.out]; rfl)) (fun hHeld => ?_)
     refine with_tabW jpS.tab19 jpS.bits19 (fun HT_ HW_ => ?_)
     have H7 : Aside0 (Jp w _ b mb m1 m2 m3 (k + 1) nb w.heap.size s1 r1 A01 c01 (some ⟨g, 0, none⟩) c2 nw x y ∧ _) := Aside0.mk (And.intro HQ2.out.1.drew (blk_below HQ2.out.2 (below_drew (Below.refl _ _))))
     generalize ((wr.alloc (.cells #[.int .i64 0, .int .i64 0, .int .i64 0, .int .i64 0, .int .i64 0, .int .i64 0, .int .i64 0, .int .i64 0, .int .i64 0, .int .i64 0, .bool false, .int .i64 0, .int .i64 0, .bool false, .int .i64 0, .int .i64 0, .int .i64 0, .int .i64 0, .int .i64 0, .int .i64 0, .int .i64 0, .int .i64 0, .int .i64 0, .int .i64 0, .bool false, .int .i64 0] 66)).setRow wr.heap.size (wA xw)).drew = w7 at H7 hHeld ⊢
     refine pure_ (i := 0) (N := (some 106)) (v := ?_) (a' := ?_) #[tt,ff,ff,ff,ff,ff,ff] rfl rfl (any_of HT_.out (by kernel_rfl)) (fun _ _ _ h => h) (Or.inl ⟨by rfl, ?_⟩) ?_ ?_
     rotate_left
     ·intro w'
      go_simp
      with_reducible rfl
     rotate_left
     ·simp only [Act.put, sQ0, sQ1, sQ2, i64_w]
      rfl
     refine pure_ (i := 1) (N := (some 107)) (v := ?_) (a' := ?_) #[tt,tt,ff,ff,ff,ff,ff] rfl rfl (any_of HT_.out (by kernel_rfl)) (fun _ _ _ h => h) (Or.inl ⟨by rfl, ?_⟩) ?_ ?_
     rotate_left
     ·intro w'
      go_simp
      with_reducible rfl
     rotate_left
     ·simp only [Act.put, sQ0, sQ1, sQ2, i64_w]
      rfl
     refine pure_ (i := 3) (N := (some 109)) (v := ?_) (a' := ?_) #[tt,tt,ff,tt,ff,ff,ff] rfl rfl (any_of HT_.out (by kernel_rfl)) (fun _ _ _ h => h) (Or.inl ⟨by rfl, ?_⟩) ?_ ?_
     rotate_left
     ·intro w'
      go_simp
      with_reducible rfl
     rotate_left
     ·simp only [Act.put, sQ0, sQ1, sQ2, i64_w]
      rfl
     refine pure_ (i := 4) (N := (some 110)) (v := ?_) (a' := ?_) #[tt,tt,ff,tt,tt,ff,ff] rfl rfl (any_of HT_.out (by kernel_rfl)) (fun _ _ _ h => h) (Or.inl ⟨by rfl, ?_⟩) ?_ ?_
     rotate_left
     ·intro w'
      go_simp
      with_reducible rfl
     rotate_left
     ·simp only [Act.put, sQ0, sQ1, sQ2, i64_w]
      rfl
     refine take_ (i := 5) (N := (some 111)) (v := ?_) (a' := ?_) #[tt,tt,ff,tt,tt,tt,ff] rfl rfl (take_ofW HT_.out HW_.out (by kernel_rfl)) (fun _ _ _ h => h) (Or.inl ⟨by rfl, ?_⟩) hHeld ?_ ?_
     rotate_left
     ·rintro w' s0
      go_simp
      with_reducible rfl
     rotate_left
     ·simp only [Act.put, sQ0, sQ1, sQ2, i64_w]
      rfl
     refine one_ (i := 2) (N := (some 108)) #[tt,tt,tt,tt,tt,tt,ff] rfl rfl (one_of HT_.out (by kernel_rfl)) (by decide) (fun K hK => ?_)
     refine call_ (f := 36) #[pA b, .int .i64 (j : Int)] (by rfl) rfl (by go_simp <;> rfl) ?_
     refine (CBJ.out w7 H7.out.1).mono ?_
     rintro rr w8 ⟨rfl, rfl⟩
     refine ⟨_, rfl, ?_⟩
     refine hK.out _ _ (show World.cell? _ ⟨wr.heap.size, 2, none⟩ = some (.int .i64 bz) from (blk_cell H7.out.2 2).trans (by rw [← HBZ.out]; rfl)) (fun hHeld => ?_)
     clear hK K
     refine norm_ (a' := ?_) ?_ ?_
     rotate_left
     ·show Act.put _ (some 108) _ = _
      simp only [Act.put, sQ0, sQ1, sQ2, i64_w]
      rfl
     refine pure_ (i := 6) (N := (some 112)) (v := ?_) (a' := ?_) #[tt,tt,tt,tt,tt,tt,tt] rfl rfl (any_of HT_.out (by kernel_rfl)) (fun _ _ _ h => h) (Or.inl ⟨by rfl, ?_⟩) ?_ ?_
     rotate_left
     ·intro w'
      go_simp
      with_reducible rfl
     rotate_left
     ·simp only [Act.put, sQ0, sQ1, sQ2, i64_w]
      rfl
     refine done_ (done_of HT_.out (by kernel_rfl)) ?_
     clear hHeld
     go_wp2
     go_roundw
     case rel => exact ⟨j + 1, by have := HJL.out; omega, by first | rw [hjj] | simp, ⟨H7.out.1⟩⟩
     case measure => have := HJL.out; first | (rw [hjj]; simp [intOf]; omega) | (simp [intOf]; omega)
    ·have qj : ((j : Int) < (nw : Int)) = False := eq_false (by omega)
     clear hj hjg
     go_wp2
     go_roundw
     case rel => exact ⟨k + 1, by omega, by first | rw [hnn] | simp, ⟨s1, r1, A01, c01, A2, c2, HQ.out, HS.out.1, HS.out.2.1, HS.out.2.2.1, HS.out.2.2.2⟩⟩
     case measure => first | (rw [hnn]; simp [intOf]; omega) | (simp [intOf]; omega)
  ·have q0 : ((k : Int) < (l.length : Int)) = False := eq_false (by omega)
   have HBL : Aside0 (Below w.heap.size w wr) := ⟨by obtain ⟨_, _, _, _, _, _, this, _⟩ := HI0.out; exact this.lr.bel⟩
   clear hk hge HI0
   go_wp2
   go_ret
   exact ⟨rfl, HBL.out⟩
end Go.Proofs.Ythniclbmpeklmaa.KJf
end
section
namespace Go.Proofs.Ythniclbmpeklmaa.KJf
open Go.RowKit Go.Proofs.YthniclbmpeklmaaW.PrintWords Go.Proofs.Ythniclbmpeklmaa.Ju
set_option linter.unusedVariables false
def knelllaw13_JudgePlays.f (a0 : Int) (l1 : List S50) (x y : Int) : Option Bool := if (∀ e ∈ l1, wfB' (toE e) = true ∧ e.f5 ≤ 9223372036854775807) ∧ (Lit.int .i64 x).wf = true ∧ (Lit.int .i64 y).wf = true then some true else none
theorem knelllaw13_JudgePlays.calls (a0 : Int) (A1 : Option Addr) (q1 : Nat) (l1 : List S50) (x y : Int) (r : Bool) (w : World) (hr1 : Kd.C k50 w A1 l1.length l1) (hc1 : l1.length ≤ q1)
  (h : knelllaw13_JudgePlays.f a0 l1 x y = some r) :
  Calls Try.prog 6 #[.int .i64 a0, .slice A1 l1.length q1, .agg #[.int .i64 x, .int .i64 y]] w fun e w' => e = .returned (.bool r) ∧ Below w.heap.size w w' := by
 unfold knelllaw13_JudgePlays.f at h
 split at h
 ·rename_i hw
  obtain rfl := Option.some.inj h
  rcases Nat.lt_or_ge 60 l1.length with hn | hn
  ·exact plays_long A1 _ q1 hn a0 x y w
  ·by_cases hb : a0 < 1 ∨ 64 < a0
   ·exact plays_no A1 _ q1 hn a0 x y hb w
   ·obtain ⟨nw, rfl⟩ : ∃ nw : Nat, a0 = (nw : Int) := ⟨a0.toNat, by omega⟩
    have q := plays_main A1 q1 nw (by omega) (by omega) (l1.map toE) (by rw [List.length_map]; exact hn) x y hw.2.1 hw.2.2 w (fun i e he => by
     rw [List.getElem?_map] at he
     obtain ⟨z, hz, rfl⟩ := Option.map_eq_some_iff.1 he
     have hi : i < l1.length := (List.getElem?_eq_some_iff.1 hz).1
     have hrd : rd_T50 l1 (i : Int) = z := by
      show l1.getD i z50 = z
      rw [List.getD_eq_getElem?_getD, hz]; rfl
     have hat := at_T50 hr1 (i : Int) (by omega) (by omega)
     rw [hrd] at hat
     exact hat) (fun e he => by
     obtain ⟨z, hz, rfl⟩ := List.mem_map.1 he
     exact ⟨wfJ_of (hw.1 z hz).1, (hw.1 z hz).2⟩)
    rw [List.length_map] at q
    exact q
 ·cases h
theorem wf_le {z : Int} (h : (Lit.int .i64 z).wf = true) : z ≤ 9223372036854775807 := by
 have e2 : IntKind.i64.max = 9223372036854775807 := rfl
 simp only [Lit.wf, e2, Bool.and_eq_true, decide_eq_true_eq] at h
 omega
theorem JudgePlays (a0 : Int) (l1 : List S50) (x y : Int) (hw : ∀ e ∈ l1, wfB' (toE e) = true ∧ e.f5 ≤ 9223372036854775807) (hx : (Lit.int .i64 x).wf = true) (hy : (Lit.int .i64 y).wf = true) : knelllaw13_JudgePlays.f a0 l1 x y = some true := if_pos ⟨hw, hx, hy⟩
end Go.Proofs.Ythniclbmpeklmaa.KJf
end
section
namespace Go.Proofs.Ythniclbmpeklmaa.Krow
open Go.ChangeShapes Go.WideShapes Go.Deep Go.Proofs.YthniclbmpeklmaaW.PrintWords
inductive Leaf where
 | int (k : IntKind)
 | bool
def Leaf.ok : Leaf → Value → Prop
 | .int k, v => ∃ n, v = .int k n ∧ (Lit.int k n).wf = true
 | .bool, v => ∃ b, v = .bool b
def Leaves : List Leaf → List Value → Prop
 | [], [] => True
 | l :: ls, v :: vs => l.ok v ∧ Leaves ls vs
 | _, _ => False
theorem Leaves.length : ∀ {ls : List Leaf} {vs : List Value}, Leaves ls vs → vs.length = ls.length
 | [], [], _ => rfl
 | _ :: _, _ :: _, h => by simp [Leaves.length h.2]
theorem Leaves.append : ∀ {a b : List Leaf} {vs ws : List Value}, Leaves a vs → Leaves b ws → Leaves (a ++ b) (vs ++ ws)
 | [], _, [], _, _, h => h
 | _ :: _, _, _ :: _, _, h, h' => ⟨h.1, Leaves.append h.2 h'⟩
theorem Leaves.int {k : IntKind} {ls : List Leaf} {vs : List Value} (h : Leaves (.int k :: ls) vs) : ∃ n r, vs = .int k n :: r ∧ (Lit.int k n).wf = true ∧ Leaves ls r := by
 match vs, h with
 | _ :: r, ⟨⟨n, rfl, hw⟩, h⟩ => exact ⟨n, r, rfl, hw, h⟩
theorem Leaves.boole {ls : List Leaf} {vs : List Value} (h : Leaves (.bool :: ls) vs) : ∃ b r, vs = .bool b :: r ∧ Leaves ls r := by
 match vs, h with
 | _ :: r, ⟨⟨b, rfl⟩, h⟩ => exact ⟨b, r, rfl, h⟩
theorem Leaves.nil {vs : List Value} (h : Leaves [] vs) : vs = [] := by
 match vs, h with
 | [], _ => rfl
theorem collect {α : Type} {p : Nat → α → Prop} {len : Nat} (key : ∀ i, i < len → ∃ x : α, p i x) : ∃ l : List α, l.length = len ∧ ∀ i x, l[i]? = some x → p i x := by
 induction len with
 | zero => exact ⟨[], rfl, fun i x h => by simp at h⟩
 | succ len ih =>
  obtain ⟨l, hl, hx⟩ := ih (fun i hi => key i (by omega))
  obtain ⟨x, hp⟩ := key len (by omega)
  refine ⟨l ++ [x], by simp [hl], fun i y hy => ?_⟩
  by_cases hi : i < len
  ·rw [List.getElem?_append_left (by omega)] at hy
   exact hx i y hy
  ·rw [List.getElem?_append_right (by omega)] at hy
   have : i - l.length = 0 := by
    have := (List.getElem?_eq_some_iff.1 hy).1
    simp at this
    omega
   rw [this] at hy
   obtain rfl : x = y := by simpa using hy
   obtain rfl : i = len := by omega
   exact hp
def fieldsOf (f : TypeId → Option (List Leaf)) (P : Program) : List Field → Nat → Option (List Leaf)
 | [], _ => some []
 | x :: r, off => (f x.type).bind fun ls => if x.offset = off ∧ P.cellsOf x.type = ls.length then (fieldsOf f P r (off + ls.length)).map (ls ++ ·) else none
def plainOf (P : Program) : Nat → TypeId → Option (List Leaf)
 | 0, _ => none
 | n + 1, t => match P.underlying t with
  | some (.int k) => some [.int k]
  | some .bool => some [.bool]
  | some (.struct fs) => (fieldsOf (plainOf P n) P fs.toList 0).bind fun ls => if P.cellsOf t = ls.length then some ls else none
  | some (.array m e) => (plainOf P n e).bind fun ls => if P.cellsOf e = ls.length ∧ P.cellsOf t = m * ls.length then some ((List.replicate m ls).flatten) else none
  | _ => none
section
variable {H : Type} {enc : TypeId × Value → H} {P : Program} {w : World} {base : Nat} {spare : Nat → Bool} {held : Bool}
theorem fields_leaves {n : Nat} (ih : ∀ (t : TypeId) (ls : List Leaf) (fuel : Nat) (cs : List Value) (x : DataW H × List MemPlace), plainOf P n t = some ls → DataW.trod enc P w base spare held fuel t cs = some x → Leaves ls cs) (cs : List Value) (m : Nat) :
  ∀ (fs : List Field) (off : Nat) (ls : List Leaf), (∀ (i : Nat) (f : Field), fs[i]? = some f → ∃ x, DataW.trod enc P w base spare held m f.type ((cs.drop f.offset).take (P.cellsOf f.type)) = some x) →
   fieldsOf (plainOf P n) P fs off = some ls → Leaves ls ((cs.drop off).take ls.length) := by
 intro fs
 induction fs with
 | nil =>
  intro off ls _ h
  simp only [fieldsOf, Option.some.injEq] at h
  subst h
  simp [Leaves]
 | cons f r ihr =>
  intro off ls hx h
  simp only [fieldsOf] at h
  obtain ⟨l1, h1, h⟩ := Option.bind_eq_some_iff.1 h
  by_cases hc : f.offset = off ∧ P.cellsOf f.type = l1.length
  ·rw [if_pos hc] at h
   obtain ⟨l2, h2, rfl⟩ := Option.map_eq_some_iff.1 h
   obtain ⟨x, hx0⟩ := hx 0 f rfl
   rw [hc.1, hc.2] at hx0
   have a1 := ih f.type l1 m _ x h1 hx0
   have a2 := ihr (off + l1.length) l2 (fun i g hg => hx (i + 1) g hg) h2
   have e : (cs.drop off).take (l1 ++ l2).length = (cs.drop off).take l1.length ++ (cs.drop (off + l1.length)).take l2.length := by
    rw [List.length_append, List.take_add, List.drop_drop]
   rw [e]
   exact a1.append a2
  ·rw [if_neg hc] at h
   cases h
theorem blocks_leaves (ls : List Leaf) (cs : List Value) : ∀ (m off : Nat), (∀ i, i < m → Leaves ls ((cs.drop ((off + i) * ls.length)).take ls.length)) → Leaves ((List.replicate m ls).flatten) ((cs.drop (off * ls.length)).take (m * ls.length)) := by
 intro m
 induction m with
 | zero => intro off _; simp [Leaves]
 | succ m ih =>
  intro off h
  have a1 := h 0 (by omega)
  have a2 := ih (off + 1) (fun i hi => by have := h (i + 1) (by omega); rw [show off + 1 + i = off + (i + 1) by omega]; exact this)
  rw [Nat.add_zero] at a1
  rw [List.replicate_succ, List.flatten_cons, show (m + 1) * ls.length = ls.length + m * ls.length by rw [Nat.add_mul]; omega, List.take_add, List.drop_drop, show off * ls.length + ls.length = (off + 1) * ls.length by rw [Nat.add_mul]; omega]
  exact a1.append a2
theorem plain_trod : ∀ (n : Nat) (t : TypeId) (ls : List Leaf) (fuel : Nat) (cs : List Value) (x : DataW H × List MemPlace), plainOf P n t = some ls → DataW.trod enc P w base spare held fuel t cs = some x → Leaves ls cs := by
 intro n
 induction n with
 | zero => intro t ls fuel cs x h; cases h
 | succ n ih =>
  intro t ls fuel cs x h hx
  unfold plainOf at h
  split at h
  ·rename_i k hu
   obtain rfl := Option.some.inj h
   obtain ⟨a, rfl, _, hw⟩ := DataW.trod_int hu hx
   exact ⟨⟨a, rfl, hw⟩, trivial⟩
  ·rename_i hu
   obtain rfl := Option.some.inj h
   obtain ⟨b, rfl, _⟩ := DataW.trod_bool hu hx
   exact ⟨⟨b, rfl⟩, trivial⟩
  ·rename_i fs hu
   obtain ⟨l, h1, h⟩ := Option.bind_eq_some_iff.1 h
   by_cases hc : P.cellsOf t = l.length
   ·rw [if_pos hc] at h
    obtain rfl := Option.some.inj h
    obtain ⟨xs, m, _, _, hl, hlen, hf⟩ := DataW.trod_struct hu hx
    have := fields_leaves ih cs m fs.toList 0 l (fun i f hi => by
     have hi' : fs[i]? = some f := by simpa using hi
     rw [hf i f hi']
     have : i < xs.length := by rw [hlen]; exact (Array.getElem?_eq_some_iff.1 hi').1
     exact ⟨_, List.getElem?_eq_getElem this⟩) h1
    rw [List.drop_zero, List.take_of_length_le (by omega)] at this
    exact this
   ·rw [if_neg hc] at h
    cases h
  ·rename_i m e hu
   obtain ⟨l, h1, h⟩ := Option.bind_eq_some_iff.1 h
   by_cases hc : P.cellsOf e = l.length ∧ P.cellsOf t = m * l.length
   ·rw [if_pos hc] at h
    obtain rfl := Option.some.inj h
    obtain ⟨xs, q, _, _, hl, hlen, hf⟩ := DataW.trod_array hu hx
    have := blocks_leaves l cs m 0 (fun i hi => by
     have h2 := hf i hi
     rw [List.getElem?_eq_getElem (by omega), hc.1] at h2
     rw [Nat.zero_add]
     exact ih e l q _ _ h1 h2)
    rw [Nat.zero_mul, List.drop_zero, List.take_of_length_le (by omega)] at this
    exact this
   ·rw [if_neg hc] at h
    cases h
  ·cases h
theorem open_plain {r : Reach} {b0 : Nat} {t : TypeId} {v : Value} {d : DataW H} {ps : List MemPlace} {n : Nat} {ls : List Leaf} (hp : plainOf P n t = some ls) (ha : (match P.underlying t with | some (.struct _) | some (.array _ _) => true | _ => false) = true)
  (hv : Value.okWide P w r b0 t v) (h : DataW.Trod enc P w base spare held t v d ps) : ∃ cs : List Value, v = .agg cs.toArray ∧ Leaves ls cs := by
 obtain ⟨fuel, hf⟩ := h
 unfold Value.okWide at hv
 have key : ∃ cs, v = .agg cs := by
  split at hv
  ·obtain ⟨cs, h1, _⟩ := hv; exact ⟨cs, h1⟩
  ·obtain ⟨cs, h1, _⟩ := hv; exact ⟨cs, h1⟩
  ·rename_i h1 h2
   split at ha
   ·rename_i fs he; exact absurd he (h1 fs)
   ·rename_i a e he; exact absurd he (h2 a e)
   ·cases ha
 obtain ⟨cs, rfl⟩ := key
 have h2 := plain_trod n t ls fuel _ _ hp hf
 exact ⟨cs.toList, by simp, by simpa [Value.cells] using h2⟩
theorem open_rows {α : Type} (D : Kd α) (good : α → Prop) {r : Reach} {b0 : Nat} {t e : TypeId} {v : Value} {d : DataW H} {ps : List MemPlace} {n : Nat} {ls : List Leaf} (hu : P.underlying t = some (.slice e)) (hp : plainOf P n e = some ls) (hc : P.cellsOf e = ls.length) (hsz : D.sz = ls.length)
  (mk : ∀ cs : List Value, Leaves ls cs → ∃ x : α, D.K w x cs ∧ good x)
  (hv : Value.okWide P w r b0 t v) (h : DataW.Trod enc P w base spare held t v d ps) :
  ∃ (A : Option Addr) (c : Nat) (l : List α), v = .slice A l.length c ∧ l.length ≤ c ∧ l.length ≤ 9223372036854775807 ∧ Kd.C D w A l.length l ∧ ∀ x ∈ l, good x := by
 obtain ⟨A, len, cap, rfl⟩ := okWide_slice hu hv
 obtain ⟨fuel, hf⟩ := h
 rcases open_slice hu hf with ⟨hcs, _⟩ | ⟨a, len', cap', m, q, Ds, Pl, hcs, _, hl, hm, hmm, _, hi⟩
 ·simp [Value.cells] at hcs
  obtain ⟨rfl, rfl, rfl⟩ := hcs
  exact ⟨none, 0, [], rfl, Nat.le_refl _, by simp, ⟨rfl, by simp, fun h => absurd h (by simp)⟩, by simp⟩
 ·simp [Value.cells] at hcs
  obtain ⟨rfl, rfl, rfl⟩ := hcs
  have hlm : len ≤ m := by
   rw [hmm]
   split
   ·exact hl
   ·exact Nat.le_refl _
  have key : ∀ i, i < len → ∃ (x : α) (cs : List Value), D.K w x cs ∧ good x ∧ cs.length = ls.length ∧ ∀ j u, cs[j]? = some u → w.cell? (a.add (i * ls.length + j)) = some u := by
   intro i hil
   obtain ⟨cs', h1, h2⟩ := hi i (by omega)
   rw [hc] at h1
   obtain ⟨_, hlen, hcell⟩ := World.cells?_some h1
   obtain ⟨x, hx, hg⟩ := mk cs' (plain_trod n e ls q cs' _ hp h2)
   refine ⟨x, cs', hx, hg, hlen, fun j u hu => ?_⟩
   have hj : j < ls.length := by rw [← hlen]; exact (List.getElem?_eq_some_iff.1 hu).1
   rw [← Go.Deep.add_add, hcell j hj, hu]
  have ch := collect key
  obtain ⟨l, rfl, hx⟩ := ch
  have hm' : cap ≤ 9223372036854775807 := hm
  refine ⟨some a, cap, l, rfl, hl, by omega, ⟨rfl, by omega, fun _ => ⟨a, rfl, fun j p hj => ?_⟩⟩, fun x hxl => ?_⟩
  ·obtain ⟨cs, h1, _, h3, h4⟩ := hx j p hj
   refine ⟨cs, by rw [h3, hsz], h1, ?_⟩
   rw [hsz]
   exact h4
  ·obtain ⟨i, hi⟩ := List.mem_iff_getElem?.1 hxl
   obtain ⟨_, _, h2, _⟩ := hx i x hi
   exact h2
end
end Go.Proofs.Ythniclbmpeklmaa.Krow
end
