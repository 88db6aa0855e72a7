/- What is proved: (*Model).point and (*Model).Do do with a model in memory what pointF and doF say. -/
import Derived.Test.YthniclbmpeklmaaJuA
import Derived.Test.YthniclbmpeklmaaEvJ
namespace Go.Proofs.Ythniclbmpeklmaa.Ju
open Go.RowKit Go.Maps Go.Proofs.YthniclbmpeklmaaW.PrintWords Go.Proofs.YthniclbmpeklmaaW.PrintLast Go.Proofs.YthniclbmpeklmaaW.PrintMore Go.Proofs.Ythniclbmpeklmaa.Mp Go.Proofs.Ythniclbmpeklmaa.Au
set_option linter.unusedVariables false
set_option linter.unusedSimpArgs false
/-- Unless something isn't so. -/
def unF (c : Bool) (m' m : Md) : Md × Int := if c = true then (m', 0) else (m, 6)
theorem end_new (b : Nat) (x y s : Int) (w : World) : Calls Try.prog 75 #[pA b, .agg #[.int .i64 x, .int .i64 y], .int .i64 s] w fun r w' => ∃ sb xb hb, r = .returned (.func (.func 99) #[] #[pA sb, pA xb, pA hb]) ∧ (w'.heap[sb]? = some (.cells #[.int .i64 s] 3 (0, 0)) ∧ w'.heap[xb]? = some (.cells #[pA b] 58 (0, 0)) ∧ w'.heap[hb]? = some (.cells #[.int .i64 x, .int .i64 y] 34 (0, 0))) ∧ Below w.heap.size w w' :=
  (end_any b x y s w).mono fun r w' ⟨h1, h2⟩ => ⟨_, _, _, h1, by
    subst h2
    exact ⟨by have q := blk_new ((w.alloc (.cells #[pA b] 58)).alloc (.cells #[.int .i64 x, .int .i64 y] 34)) (.cells #[.int .i64 s] 3); rw [show ((w.alloc (.cells #[pA b] 58)).alloc (.cells #[.int .i64 x, .int .i64 y] 34)).heap.size = w.heap.size + 1 + 1 by simp] at q; exact q,
      blk_alloc (blk_alloc (blk_new _ _) _) _, blk_alloc (by have q := blk_new (w.alloc (.cells #[pA b] 58)) (.cells #[.int .i64 x, .int .i64 y] 34); rw [show (w.alloc (.cells #[pA b] 58)).heap.size = w.heap.size + 1 by simp] at q; exact q) _⟩, by
    subst h2
    exact below_alloc (below_alloc (below_alloc (Below.refl _ _) _) _) _⟩
section
variable {w W W1 : World} {B b n m1 m2 eb xb sb hb : Nat} {m m' : Md} {e : Ev}
theorem un_no (fn : Fn) (first cap : Array Value) (h : MdIs W B b n m m1 m2) (k : Nat) : Calls Try.prog 73 #[.bool false, .func fn first cap] W fun r w' => r = .returned (.int .i64 (unF false m' m).2) ∧ MdIs w' B b (n + k) (unF false m' m).1 m1 m2 ∧ Fr W w' (mdS b m1 m2) :=
  (unless_no fn first cap W).mono fun r w' ⟨h1, h2⟩ => ⟨h1, by rw [h2]; exact h.up (by omega), by rw [h2]; exact Fr.refl _ _⟩
theorem un_nothing (c : Bool) (h : MdIs W B b n m m1 m2) : Calls Try.prog 73 #[.bool c, .func (.func 100) #[] #[]] W fun r w' => r = .returned (.int .i64 (unF c m m).2) ∧ MdIs w' B b (n + 3) (unF c m m).1 m1 m2 ∧ Fr W w' (mdS b m1 m2) := by
  cases c with
  | false => exact un_no _ _ _ h 3
  | true => exact (unless_nothing #[] W (fun w' => w' = W) (model_nothing W)).mono fun r w' ⟨h1, h2⟩ => ⟨h1, by rw [h2]; exact h.up (by omega), by rw [h2]; exact Fr.refl _ _⟩
theorem un_tick (c : Bool) (h : MdIs W B b n m m1 m2) (he : W.heap[eb]? = some (.cells (evA e) 54 (0, 0))) (hx : W.heap[xb]? = some (.cells #[pA b] 58 (0, 0))) : Calls Try.prog 73 #[.bool c, .func (.func 74) #[] #[pA eb, pA xb]] W fun r w' => r = .returned (.int .i64 (unF c { m with clk := e.t } m).2) ∧ MdIs w' B b (n + 3) (unF c { m with clk := e.t } m).1 m1 m2 ∧ Fr W w' (mdS b m1 m2) := by
  cases c with
  | false => exact un_no _ _ _ h 3
  | true => exact (unless_tick #[pA eb, pA xb] W _ (tick_any e h he hx)).mono fun r w' ⟨h1, h2⟩ => ⟨h1, h2.1.up (by omega), h2.2⟩
theorem un_end (c : Bool) (s x y : Int) (hn : n ≤ 1000000) (hx : (Lit.int .i64 x).wf = true) (hy : (Lit.int .i64 y).wf = true) (h : MdIs W B b n m m1 m2) (hb3 : W.heap[sb]? = some (.cells #[.int .i64 s] 3 (0, 0)) ∧ W.heap[xb]? = some (.cells #[pA b] 58 (0, 0)) ∧ W.heap[hb]? = some (.cells #[.int .i64 x, .int .i64 y] 34 (0, 0))) :
    Calls Try.prog 73 #[.bool c, .func (.func 99) #[] #[pA sb, pA xb, pA hb]] W fun r w' => r = .returned (.int .i64 (unF c (m.end_ (x, y) s) m).2) ∧ MdIs w' B b (n + 3) (unF c (m.end_ (x, y) s) m).1 m1 m2 ∧ Fr W w' (mdS b m1 m2) := by
  cases c with
  | false => exact un_no _ _ _ h 3
  | true => exact (unless_end #[pA sb, pA xb, pA hb] W _ (end1_any s x y hn hx hy h hb3.1 hb3.2.1 hb3.2.2)).mono fun r w' ⟨h1, h2⟩ => ⟨h1, h2.1.up (by omega), h2.2⟩
theorem un_start (c : Bool) (hn : n ≤ 1000000) (hx : (Lit.int .i64 e.nn).wf = true) (hy : (Lit.int .i64 e.ng).wf = true) (h : MdIs W B b n m m1 m2) (he : W.heap[eb]? = some (.cells (evA e) 54 (0, 0))) (hxb : W.heap[xb]? = some (.cells #[pA b] 58 (0, 0))) :
    Calls Try.prog 73 #[.bool c, .func (.func 101) #[] #[pA xb, pA eb]] W fun r w' => r = .returned (.int .i64 (unF c (m.arm e.new e.t) m).2) ∧ MdIs w' B b (n + 3) (unF c (m.arm e.new e.t) m).1 m1 m2 ∧ Fr W w' (mdS b m1 m2) := by
  cases c with
  | false => exact un_no _ _ _ h 3
  | true => exact (unless_start #[pA xb, pA eb] W _ (start1_any e hn hx hy h he hxb)).mono fun r w' ⟨h1, h2⟩ => ⟨h1, h2.1.up (by omega), h2.2⟩
theorem un_rearm (c : Bool) (hn : n + 1 ≤ 1000000) (hx : (Lit.int .i64 e.nn).wf = true) (hy : (Lit.int .i64 e.ng).wf = true) (hx' : (Lit.int .i64 e.hn).wf = true) (hy' : (Lit.int .i64 e.hg).wf = true) (h : MdIs W B b n m m1 m2) (he : W.heap[eb]? = some (.cells (evA e) 54 (0, 0))) (hxb : W.heap[xb]? = some (.cells #[pA b] 58 (0, 0))) :
    Calls Try.prog 73 #[.bool c, .func (.func 103) #[] #[pA xb, pA eb]] W fun r w' => r = .returned (.int .i64 (unF c ((m.end_ e.h 4).arm e.new e.t) m).2) ∧ MdIs w' B b (n + 3) (unF c ((m.end_ e.h 4).arm e.new e.t) m).1 m1 m2 ∧ Fr W w' (mdS b m1 m2) := by
  cases c with
  | false => exact un_no _ _ _ h 3
  | true => exact (unless_rearm #[pA xb, pA eb] W _ (rearm1_any e hn hx hy hx' hy' h he hxb)).mono fun r w' ⟨h1, h2⟩ => ⟨h1, h2⟩
end
/-- What a walk over a model stands on: the model, the boxes of its pointer and of the event. -/
structure Dj (w W : World) (B b n m1 m2 : Nat) (m : Md) (e : Ev) : Prop where
  md : MdIs W B b n m m1 m2
  xb : W.heap[w.heap.size]? = some (.cells #[pA b] 58 (0, 0))
  eb : W.heap[w.heap.size + 1]? = some (.cells (evA e) 54 (0, 0))
  fr : Fr w W (mdS b m1 m2)
section
variable {w W W1 : World} {B b n m1 m2 : Nat} {m : Md} {e : Ev}
theorem Dj.start (h : MdIs w B b n m m1 m2) (e : Ev) : Dj w ((w.alloc (.cells #[pA b] 58)).alloc (.cells (evA e) 54)) B b n m1 m2 m e :=
  ⟨(h.alloc _).alloc _, blk_alloc (blk_new _ _) _, by have q := blk_new (w.alloc (.cells #[pA b] 58)) (.cells (evA e) 54); rw [show (w.alloc (.cells #[pA b] 58)).heap.size = w.heap.size + 1 by simp] at q; exact q, ((Fr.refl _ _).alloc _).alloc _⟩
theorem Dj.step (h : Dj w W B b n m1 m2 m e) (hb : Below W.heap.size W W1) : Dj w W1 B b n m1 m2 m e := ⟨h.md.below hb, blk_below h.xb hb, blk_below h.eb hb, h.fr.trans (Fr.of_below hb _)⟩
theorem Dj.alloc (h : Dj w W B b n m1 m2 m e) (o : Obj) : Dj w (W.alloc o) B b n m1 m2 m e := h.step (below_alloc (Below.refl _ _) o)
theorem Dj.drew (h : Dj w W B b n m1 m2 m e) : Dj w W.drew B b n m1 m2 m e := ⟨h.md.drew, h.xb, h.eb, h.fr.drew⟩
theorem Dj.drewN (h : Dj w W B b n m1 m2 m e) (q : Nat) : Dj w (W.drewN q) B b n m1 m2 m e := ⟨h.md.drewN q, h.xb, h.eb, h.fr.drewN q⟩
theorem Dj.cells (h : Dj w W B b n m1 m2 m e) : (∀ i, W.cell? ⟨b, i, none⟩ = (mdA m m1 m2)[i]?) ∧ (∀ i, W.cell? ⟨w.heap.size, i, none⟩ = (#[pA b] : Array Value)[i]?) ∧ (∀ i, W.cell? ⟨w.heap.size + 1, i, none⟩ = (evA e)[i]?) := ⟨fun i => h.md.cell i, fun i => blk_cell h.xb i, fun i => blk_cell h.eb i⟩
end
/-- What a model's function leaves. -/
def DoPost (w : World) (B b n m1 m2 : Nat) (p : Md × Int) (r : Ending) (w' : World) : Prop := r = .returned (.int .i64 p.2) ∧ MdIs w' B b (n + 3) p.1 m1 m2 ∧ Fr w w' (mdS b m1 m2)
theorem DoPost.of {w W : World} {B b n m1 m2 : Nat} {p q : Md × Int} (h : p = q) {v : Int} (hv : v = q.2) (hm : MdIs W B b (n + 3) q.1 m1 m2) (hf : Fr w W (mdS b m1 m2)) : DoPost w B b n m1 m2 p (.returned (.int .i64 v)) W := by
  subst h
  subst hv
  exact ⟨rfl, hm, hf⟩

set_option maxHeartbeats 4000000 in
set_option maxRecDepth 100000 in
theorem point_cancel {w : World} {B b n m1 m2 : Nat} {m : Md} (e : Ev) (hw : (Lit.int .i64 e.hn).wf = true ∧ (Lit.int .i64 e.hg).wf = true ∧ (Lit.int .i64 e.nn).wf = true ∧ (Lit.int .i64 e.ng).wf = true) (hn : n + 1 ≤ 1000000) (h : MdIs w B b n m m1 m2) (ho : e.op = 2) (hy : e.y = true) :
    Calls Try.prog 76 #[pA b, .agg (evA e), .bool (m.st e.h == 1)] w (DoPost w B b n m1 m2 (pointF m e)) := by
  have hu0 := Try.underlying125
  have hu1 := Try.underlying34
  have hu2 := Try.underlying54
  have hmf : ∀ (fn : Fn) (first cap : Array Value) (w : World), (Instr.makeFunc fn first cap).run Try.prog w = .ok (.func fn first cap) w := fun _ _ _ _ => rfl
  have HF := Aside0.mk (show pointF m e = unF (m.st e.h == 1) (m.end_ e.h 3) m by unfold pointF; rw [if_pos ⟨ho, hy⟩]; unfold unF; by_cases ha : m.st e.h = 1 <;> simp [ha])
  have q0 : (e.op == 2) = true := beq_iff_eq.2 (ho)
  have r0 : (e.op != 2) = false := bne_eq_false_iff_eq.2 (ho)
  have y0 := hy
  have HW := Aside0.mk hw
  have HN := Aside0.mk hn
  have HJ := Aside0.mk (Dj.start h e)
  have CE := Aside0.mk (fun W => end_new b e.hn e.hg 3 W)
  obtain ⟨am, ham⟩ : ∃ am, (m.st e.h == 1) = am := ⟨_, rfl⟩
  (try rw [ham] at HF); rw [ham]
  clear ham hw hn h ho hy
  go_enter Try.func76, Try.ntmps76
  go_wp2_with (first | (go_at_call 75; (with_reducible refine (CE.out _).mono ?_); rintro r w2 ⟨sb, xb, hb, rfl, h3, hb2⟩; have HE2 := Aside0.mk (And.intro h3 (HJ.out.step hb2)); clear h3 hb2) | (go_at_call 73; (with_reducible refine (un_end am 3 e.hn e.hg (by have := HN.out; omega) HW.out.1 HW.out.2.1 HE2.out.2.md HE2.out.1).mono ?_); rintro r w4 ⟨rfl, hm, hf⟩; have HM := Aside0.mk (And.intro hm (HE2.out.2.fr.trans hf)); clear hm hf))
  go_ret
  exact DoPost.of HF.out rfl HM.out.1 HM.out.2

set_option maxHeartbeats 4000000 in
set_option maxRecDepth 100000 in
theorem point_cancel_no {w : World} {B b n m1 m2 : Nat} {m : Md} (e : Ev) (hw : (Lit.int .i64 e.hn).wf = true ∧ (Lit.int .i64 e.hg).wf = true ∧ (Lit.int .i64 e.nn).wf = true ∧ (Lit.int .i64 e.ng).wf = true) (hn : n + 1 ≤ 1000000) (h : MdIs w B b n m m1 m2) (ho : e.op = 2) (hy : e.y = false) :
    Calls Try.prog 76 #[pA b, .agg (evA e), .bool (m.st e.h == 1)] w (DoPost w B b n m1 m2 (pointF m e)) := by
  have hu0 := Try.underlying125
  have hu1 := Try.underlying34
  have hu2 := Try.underlying54
  have hmf : ∀ (fn : Fn) (first cap : Array Value) (w : World), (Instr.makeFunc fn first cap).run Try.prog w = .ok (.func fn first cap) w := fun _ _ _ _ => rfl
  have HF := Aside0.mk (show pointF m e = unF (!(m.st e.h == 1)) m m by unfold pointF; rw [if_neg (by rw [hy]; simp), if_pos (.inl ho)]; unfold unF; by_cases ha : m.st e.h = 1 <;> simp [ha])
  have q0 : (e.op == 2) = true := beq_iff_eq.2 (ho)
  have r0 : (e.op != 2) = false := bne_eq_false_iff_eq.2 (ho)
  have y0 := hy
  have HW := Aside0.mk hw
  have HN := Aside0.mk hn
  have HJ := Aside0.mk (Dj.start h e)
  obtain ⟨am, ham⟩ : ∃ am, (m.st e.h == 1) = am := ⟨_, rfl⟩
  (try rw [ham] at HF); rw [ham]
  clear ham hw hn h ho hy
  go_enter Try.func76, Try.ntmps76
  go_wp2_with (first | (go_at_call 73; (with_reducible refine (un_nothing (!am) HJ.out.md).mono ?_); rintro r w4 ⟨rfl, hm, hf⟩; have HM := Aside0.mk (And.intro hm (HJ.out.fr.trans hf)); clear hm hf))
  go_ret
  exact DoPost.of HF.out rfl HM.out.1 HM.out.2

set_option maxHeartbeats 4000000 in
set_option maxRecDepth 100000 in
theorem point_stale {w : World} {B b n m1 m2 : Nat} {m : Md} (e : Ev) (hw : (Lit.int .i64 e.hn).wf = true ∧ (Lit.int .i64 e.hg).wf = true ∧ (Lit.int .i64 e.nn).wf = true ∧ (Lit.int .i64 e.ng).wf = true) (hn : n + 1 ≤ 1000000) (h : MdIs w B b n m m1 m2) (n2 : ¬ e.op = 2) (n1 : ¬ e.op = 1) (h4 : e.er = 4) :
    Calls Try.prog 76 #[pA b, .agg (evA e), .bool (m.st e.h == 1)] w (DoPost w B b n m1 m2 (pointF m e)) := by
  have hu0 := Try.underlying125
  have hu1 := Try.underlying34
  have hu2 := Try.underlying54
  have hmf : ∀ (fn : Fn) (first cap : Array Value) (w : World), (Instr.makeFunc fn first cap).run Try.prog w = .ok (.func fn first cap) w := fun _ _ _ _ => rfl
  have HF := Aside0.mk (show pointF m e = unF (!(m.st e.h == 1)) m m by unfold pointF; rw [if_neg (fun q => n2 q.1), if_pos (.inr ⟨h4, n1⟩)]; unfold unF; by_cases ha : m.st e.h = 1 <;> simp [ha])
  have q0 : (e.op == 2) = false := beq_eq_false_iff_ne.2 (n2)
  have r0 : (e.op != 2) = true := bne_iff_ne.2 (n2)
  have q1 : (e.op == 1) = false := beq_eq_false_iff_ne.2 (n1)
  have r1 : (e.op != 1) = true := bne_iff_ne.2 (n1)
  have q4 : (e.er == 4) = true := beq_iff_eq.2 (h4)
  have r4 : (e.er != 4) = false := bne_eq_false_iff_eq.2 (h4)
  have HW := Aside0.mk hw
  have HN := Aside0.mk hn
  have HJ := Aside0.mk (Dj.start h e)
  obtain ⟨am, ham⟩ : ∃ am, (m.st e.h == 1) = am := ⟨_, rfl⟩
  (try rw [ham] at HF); rw [ham]
  clear ham hw hn h n2 n1 h4
  go_enter Try.func76, Try.ntmps76
  go_wp2_with (first | (go_at_call 73; (with_reducible refine (un_nothing (!am) HJ.out.md).mono ?_); rintro r w4 ⟨rfl, hm, hf⟩; have HM := Aside0.mk (And.intro hm (HJ.out.fr.trans hf)); clear hm hf))
  go_ret
  exact DoPost.of HF.out rfl HM.out.1 HM.out.2

set_option maxHeartbeats 4000000 in
set_option maxRecDepth 100000 in
theorem point_err1 {w : World} {B b n m1 m2 : Nat} {m : Md} (e : Ev) (hw : (Lit.int .i64 e.hn).wf = true ∧ (Lit.int .i64 e.hg).wf = true ∧ (Lit.int .i64 e.nn).wf = true ∧ (Lit.int .i64 e.ng).wf = true) (hn : n + 1 ≤ 1000000) (h : MdIs w B b n m m1 m2) (ho : e.op = 1) (h0 : ¬ e.er = 0) :
    Calls Try.prog 76 #[pA b, .agg (evA e), .bool (m.st e.h == 1)] w (DoPost w B b n m1 m2 (pointF m e)) := by
  have hu0 := Try.underlying125
  have hu1 := Try.underlying34
  have hu2 := Try.underlying54
  have hmf : ∀ (fn : Fn) (first cap : Array Value) (w : World), (Instr.makeFunc fn first cap).run Try.prog w = .ok (.func fn first cap) w := fun _ _ _ _ => rfl
  have HF := Aside0.mk (show pointF m e = (m, 0) by unfold pointF; rw [if_neg (fun q => by omega), if_neg (by omega), if_pos h0])
  have q0 : (e.op == 2) = false := beq_eq_false_iff_ne.2 (by omega)
  have r0 : (e.op != 2) = true := bne_iff_ne.2 (by omega)
  have q1 : (e.op == 1) = true := beq_iff_eq.2 (ho)
  have r1 : (e.op != 1) = false := bne_eq_false_iff_eq.2 (ho)
  have q4 : (e.er == 0) = false := beq_eq_false_iff_ne.2 (h0)
  have r4 : (e.er != 0) = true := bne_iff_ne.2 (h0)
  have HW := Aside0.mk hw
  have HN := Aside0.mk hn
  have HJ := Aside0.mk (Dj.start h e)
  obtain ⟨am, ham⟩ : ∃ am, (m.st e.h == 1) = am := ⟨_, rfl⟩
  (try rw [ham] at HF); rw [ham]
  clear ham hw hn h ho h0
  go_enter Try.func76, Try.ntmps76
  by_cases g4 : (e.er == 4) = true
  · go_wp2
    go_ret
    exact DoPost.of HF.out rfl (HJ.out.md.up (by omega)) HJ.out.fr
  · have g4 : (e.er == 4) = false := by simpa using g4
    go_wp2
    go_ret
    exact DoPost.of HF.out rfl (HJ.out.md.up (by omega)) HJ.out.fr

set_option maxHeartbeats 4000000 in
set_option maxRecDepth 100000 in
theorem point_err {w : World} {B b n m1 m2 : Nat} {m : Md} (e : Ev) (hw : (Lit.int .i64 e.hn).wf = true ∧ (Lit.int .i64 e.hg).wf = true ∧ (Lit.int .i64 e.nn).wf = true ∧ (Lit.int .i64 e.ng).wf = true) (hn : n + 1 ≤ 1000000) (h : MdIs w B b n m m1 m2) (n2 : ¬ e.op = 2) (h0 : ¬ e.er = 0) (h4 : ¬ e.er = 4) :
    Calls Try.prog 76 #[pA b, .agg (evA e), .bool (m.st e.h == 1)] w (DoPost w B b n m1 m2 (pointF m e)) := by
  have hu0 := Try.underlying125
  have hu1 := Try.underlying34
  have hu2 := Try.underlying54
  have hmf : ∀ (fn : Fn) (first cap : Array Value) (w : World), (Instr.makeFunc fn first cap).run Try.prog w = .ok (.func fn first cap) w := fun _ _ _ _ => rfl
  have HF := Aside0.mk (show pointF m e = (m, 0) by unfold pointF; rw [if_neg (fun q => n2 q.1), if_neg (by omega), if_pos h0])
  have q0 : (e.op == 2) = false := beq_eq_false_iff_ne.2 (n2)
  have r0 : (e.op != 2) = true := bne_iff_ne.2 (n2)
  have q1 : (e.er == 4) = false := beq_eq_false_iff_ne.2 (h4)
  have r1 : (e.er != 4) = true := bne_iff_ne.2 (h4)
  have q4 : (e.er == 0) = false := beq_eq_false_iff_ne.2 (h0)
  have r4 : (e.er != 0) = true := bne_iff_ne.2 (h0)
  have HW := Aside0.mk hw
  have HN := Aside0.mk hn
  have HJ := Aside0.mk (Dj.start h e)
  obtain ⟨am, ham⟩ : ∃ am, (m.st e.h == 1) = am := ⟨_, rfl⟩
  (try rw [ham] at HF); rw [ham]
  clear ham hw hn h n2 h0 h4
  go_enter Try.func76, Try.ntmps76
  go_wp2
  go_ret
  exact DoPost.of HF.out rfl (HJ.out.md.up (by omega)) HJ.out.fr

set_option maxHeartbeats 4000000 in
set_option maxRecDepth 100000 in
theorem point_migrate {w : World} {B b n m1 m2 : Nat} {m : Md} (e : Ev) (hw : (Lit.int .i64 e.hn).wf = true ∧ (Lit.int .i64 e.hg).wf = true ∧ (Lit.int .i64 e.nn).wf = true ∧ (Lit.int .i64 e.ng).wf = true) (hn : n + 1 ≤ 1000000) (h : MdIs w B b n m m1 m2) (ho : e.op = 4) (h0 : e.er = 0) :
    Calls Try.prog 76 #[pA b, .agg (evA e), .bool (m.st e.h == 1)] w (DoPost w B b n m1 m2 (pointF m e)) := by
  have hu0 := Try.underlying125
  have hu1 := Try.underlying34
  have hu2 := Try.underlying54
  have hmf : ∀ (fn : Fn) (first cap : Array Value) (w : World), (Instr.makeFunc fn first cap).run Try.prog w = .ok (.func fn first cap) w := fun _ _ _ _ => rfl
  have HF := Aside0.mk (show pointF m e = unF (m.st e.h == 1) m m by unfold pointF; rw [if_neg (by omega), if_neg (by omega), if_neg (by omega), if_neg (by omega), if_pos ho]; unfold unF; by_cases ha : m.st e.h = 1 <;> simp [ha])
  have q0 : (e.op == 2) = false := beq_eq_false_iff_ne.2 (by omega)
  have r0 : (e.op != 2) = true := bne_iff_ne.2 (by omega)
  have q1 : (e.op == 1) = false := beq_eq_false_iff_ne.2 (by omega)
  have r1 : (e.op != 1) = true := bne_iff_ne.2 (by omega)
  have q2 : (e.op == 4) = true := beq_iff_eq.2 (ho)
  have r2 : (e.op != 4) = false := bne_eq_false_iff_eq.2 (ho)
  have q5 : (e.er == 4) = false := beq_eq_false_iff_ne.2 (by omega)
  have r5 : (e.er != 4) = true := bne_iff_ne.2 (by omega)
  have q4 : (e.er == 0) = true := beq_iff_eq.2 (h0)
  have r4 : (e.er != 0) = false := bne_eq_false_iff_eq.2 (h0)
  have HW := Aside0.mk hw
  have HN := Aside0.mk hn
  have HJ := Aside0.mk (Dj.start h e)
  obtain ⟨am, ham⟩ : ∃ am, (m.st e.h == 1) = am := ⟨_, rfl⟩
  (try rw [ham] at HF); rw [ham]
  clear ham hw hn h ho h0
  go_enter Try.func76, Try.ntmps76
  go_wp2_with (first | (go_at_call 73; (with_reducible refine (un_nothing am HJ.out.md).mono ?_); rintro r w4 ⟨rfl, hm, hf⟩; have HM := Aside0.mk (And.intro hm (HJ.out.fr.trans hf)); clear hm hf))
  go_ret
  exact DoPost.of HF.out rfl HM.out.1 HM.out.2

set_option maxHeartbeats 4000000 in
set_option maxRecDepth 100000 in
theorem point_rearm_node {w : World} {B b n m1 m2 : Nat} {m : Md} (e : Ev) (hw : (Lit.int .i64 e.hn).wf = true ∧ (Lit.int .i64 e.hg).wf = true ∧ (Lit.int .i64 e.nn).wf = true ∧ (Lit.int .i64 e.ng).wf = true) (hn : n + 1 ≤ 1000000) (h : MdIs w B b n m m1 m2) (n2 : ¬ e.op = 2) (n1 : ¬ e.op = 1) (n4 : ¬ e.op = 4) (h0 : e.er = 0) (hx : ¬ e.nn = e.hn) :
    Calls Try.prog 76 #[pA b, .agg (evA e), .bool (m.st e.h == 1)] w (DoPost w B b n m1 m2 (pointF m e)) := by
  have hu0 := Try.underlying125
  have hu1 := Try.underlying34
  have hu2 := Try.underlying54
  have hmf : ∀ (fn : Fn) (first cap : Array Value) (w : World), (Instr.makeFunc fn first cap).run Try.prog w = .ok (.func fn first cap) w := fun _ _ _ _ => rfl
  have HF := Aside0.mk (show pointF m e = unF false ((m.end_ e.h 4).arm e.new e.t) m by unfold pointF; rw [if_neg (by omega), if_neg (by omega), if_neg (by omega), if_neg n1, if_neg n4]; rw [if_neg (fun q => hx q.2.1)]; rfl)
  have q0 : (e.op == 2) = false := beq_eq_false_iff_ne.2 (n2)
  have r0 : (e.op != 2) = true := bne_iff_ne.2 (n2)
  have q1 : (e.op == 1) = false := beq_eq_false_iff_ne.2 (n1)
  have r1 : (e.op != 1) = true := bne_iff_ne.2 (n1)
  have q2 : (e.op == 4) = false := beq_eq_false_iff_ne.2 (n4)
  have r2 : (e.op != 4) = true := bne_iff_ne.2 (n4)
  have q5 : (e.er == 4) = false := beq_eq_false_iff_ne.2 (by omega)
  have r5 : (e.er != 4) = true := bne_iff_ne.2 (by omega)
  have q4 : (e.er == 0) = true := beq_iff_eq.2 (h0)
  have r4 : (e.er != 0) = false := bne_eq_false_iff_eq.2 (h0)
  have g0 : (e.nn == e.hn) = false := beq_eq_false_iff_ne.2 (hx)
  have HW := Aside0.mk hw
  have HN := Aside0.mk hn
  have HJ := Aside0.mk (Dj.start h e)
  obtain ⟨am, ham⟩ : ∃ am, (m.st e.h == 1) = am := ⟨_, rfl⟩
  (try rw [ham] at HF); rw [ham]
  clear ham hw hn h n2 n1 n4 h0 hx
  cases am with
  | true =>
    go_enter Try.func76, Try.ntmps76
    go_wp2_with (first | (go_at_call 73; (with_reducible refine (un_rearm false HN.out HW.out.2.2.1 HW.out.2.2.2 HW.out.1 HW.out.2.1 HJ.out.md HJ.out.eb HJ.out.xb).mono ?_); rintro r w4 ⟨rfl, hm, hf⟩; have HM := Aside0.mk (And.intro hm (HJ.out.fr.trans hf)); clear hm hf))
    go_ret
    exact DoPost.of (HF.out.trans (by rfl)) rfl HM.out.1 HM.out.2
  | false =>
    go_enter Try.func76, Try.ntmps76
    go_wp2_with (first | (go_at_call 73; (with_reducible refine (un_rearm false HN.out HW.out.2.2.1 HW.out.2.2.2 HW.out.1 HW.out.2.1 HJ.out.md HJ.out.eb HJ.out.xb).mono ?_); rintro r w4 ⟨rfl, hm, hf⟩; have HM := Aside0.mk (And.intro hm (HJ.out.fr.trans hf)); clear hm hf))
    go_ret
    exact DoPost.of (HF.out.trans (by rfl)) rfl HM.out.1 HM.out.2

set_option maxHeartbeats 4000000 in
set_option maxRecDepth 100000 in
theorem point_rearm {w : World} {B b n m1 m2 : Nat} {m : Md} (e : Ev) (hw : (Lit.int .i64 e.hn).wf = true ∧ (Lit.int .i64 e.hg).wf = true ∧ (Lit.int .i64 e.nn).wf = true ∧ (Lit.int .i64 e.ng).wf = true) (hn : n + 1 ≤ 1000000) (h : MdIs w B b n m m1 m2) (n2 : ¬ e.op = 2) (n1 : ¬ e.op = 1) (n4 : ¬ e.op = 4) (h0 : e.er = 0) (hx : e.nn = e.hn) :
    Calls Try.prog 76 #[pA b, .agg (evA e), .bool (m.st e.h == 1)] w (DoPost w B b n m1 m2 (pointF m e)) := by
  have hu0 := Try.underlying125
  have hu1 := Try.underlying34
  have hu2 := Try.underlying54
  have hmf : ∀ (fn : Fn) (first cap : Array Value) (w : World), (Instr.makeFunc fn first cap).run Try.prog w = .ok (.func fn first cap) w := fun _ _ _ _ => rfl
  have HF := Aside0.mk (show pointF m e = unF ((m.st e.h == 1) && (e.ng == wrap64 (e.hg + 1))) ((m.end_ e.h 4).arm e.new e.t) m by unfold pointF; rw [if_neg (by omega), if_neg (by omega), if_neg (by omega), if_neg n1, if_neg n4]; unfold unF; by_cases ha : m.st e.h = 1 <;> by_cases hb : e.ng = wrap64 (e.hg + 1) <;> simp [ha, hb, hx])
  have q0 : (e.op == 2) = false := beq_eq_false_iff_ne.2 (n2)
  have r0 : (e.op != 2) = true := bne_iff_ne.2 (n2)
  have q1 : (e.op == 1) = false := beq_eq_false_iff_ne.2 (n1)
  have r1 : (e.op != 1) = true := bne_iff_ne.2 (n1)
  have q2 : (e.op == 4) = false := beq_eq_false_iff_ne.2 (n4)
  have r2 : (e.op != 4) = true := bne_iff_ne.2 (n4)
  have q5 : (e.er == 4) = false := beq_eq_false_iff_ne.2 (by omega)
  have r5 : (e.er != 4) = true := bne_iff_ne.2 (by omega)
  have q4 : (e.er == 0) = true := beq_iff_eq.2 (h0)
  have r4 : (e.er != 0) = false := bne_eq_false_iff_eq.2 (h0)
  have g0 : (e.nn == e.hn) = true := beq_iff_eq.2 (hx)
  have HW := Aside0.mk hw
  have HN := Aside0.mk hn
  have HJ := Aside0.mk (Dj.start h e)
  obtain ⟨am, ham⟩ : ∃ am, (m.st e.h == 1) = am := ⟨_, rfl⟩
  (try rw [ham] at HF); rw [ham]
  clear ham hw hn h n2 n1 n4 h0 hx
  cases am with
  | true =>
    go_enter Try.func76, Try.ntmps76
    go_wp2_with (first | (go_at_call 73; (with_reducible refine (un_rearm (e.ng == wrap64 (e.hg + 1)) HN.out HW.out.2.2.1 HW.out.2.2.2 HW.out.1 HW.out.2.1 HJ.out.md HJ.out.eb HJ.out.xb).mono ?_); rintro r w4 ⟨rfl, hm, hf⟩; have HM := Aside0.mk (And.intro hm (HJ.out.fr.trans hf)); clear hm hf))
    go_ret
    exact DoPost.of (HF.out.trans (by rfl)) rfl HM.out.1 HM.out.2
  | false =>
    go_enter Try.func76, Try.ntmps76
    go_wp2_with (first | (go_at_call 73; (with_reducible refine (un_rearm false HN.out HW.out.2.2.1 HW.out.2.2.2 HW.out.1 HW.out.2.1 HJ.out.md HJ.out.eb HJ.out.xb).mono ?_); rintro r w4 ⟨rfl, hm, hf⟩; have HM := Aside0.mk (And.intro hm (HJ.out.fr.trans hf)); clear hm hf))
    go_ret
    exact DoPost.of (HF.out.trans (by rfl)) rfl HM.out.1 HM.out.2

set_option maxHeartbeats 4000000 in
set_option maxRecDepth 100000 in
theorem point_start {w : World} {B b n m1 m2 : Nat} {m : Md} (e : Ev) (hw : (Lit.int .i64 e.hn).wf = true ∧ (Lit.int .i64 e.hg).wf = true ∧ (Lit.int .i64 e.nn).wf = true ∧ (Lit.int .i64 e.ng).wf = true) (hn : n + 1 ≤ 1000000) (hwl : ∀ x, (Lit.int .i64 ((m.lst x).getD 0)).wf = true) (h : MdIs w B b n m m1 m2) (ho : e.op = 1) (h0 : e.er = 0) :
    Calls Try.prog 76 #[pA b, .agg (evA e), .bool (m.st e.h == 1)] w (DoPost w B b n m1 m2 (pointF m e)) := by
  have hu0 := Try.underlying125
  have hu1 := Try.underlying34
  have hu2 := Try.underlying54
  have hmf : ∀ (fn : Fn) (first cap : Array Value) (w : World), (Instr.makeFunc fn first cap).run Try.prog w = .ok (.func fn first cap) w := fun _ _ _ _ => rfl
  have HF := Aside0.mk (show pointF m e = unF (!(m.lst e.nn).isSome || (m.st (e.nn, (m.lst e.nn).getD 0) != 1 && decide ((m.lst e.nn).getD 0 < e.ng))) (m.arm e.new e.t) m by unfold pointF Md.startOk; rw [if_neg (by omega), if_neg (by omega), if_neg (by omega), if_pos ho]; rfl)
  have q0 : (e.op == 2) = false := beq_eq_false_iff_ne.2 (by omega)
  have r0 : (e.op != 2) = true := bne_iff_ne.2 (by omega)
  have q1 : (e.op == 1) = true := beq_iff_eq.2 (ho)
  have r1 : (e.op != 1) = false := bne_eq_false_iff_eq.2 (ho)
  have q5 : (e.er == 4) = false := beq_eq_false_iff_ne.2 (by omega)
  have r5 : (e.er != 4) = true := bne_iff_ne.2 (by omega)
  have q4 : (e.er == 0) = true := beq_iff_eq.2 (h0)
  have r4 : (e.er != 0) = false := bne_eq_false_iff_eq.2 (h0)
  have HW := Aside0.mk hw
  have HN := Aside0.mk hn
  have HJ := Aside0.mk (Dj.start h e)
  obtain ⟨am, ham⟩ : ∃ am, (m.st e.h == 1) = am := ⟨_, rfl⟩
  rw [ham]
  clear ham hw hn h ho h0
  have hl := fun q => HJ.out.md.lookL HW.out.2.2.1 (((w.alloc (.cells #[pA b] 58)).alloc (.cells (evA e) 54)).drewN q) rfl
  obtain ⟨ls, hls⟩ : ∃ ls, m.lst e.nn = ls := ⟨_, rfl⟩
  rw [hls] at hl HF
  obtain ⟨g, hg⟩ : ∃ g, ls.getD 0 = g := ⟨_, rfl⟩
  obtain ⟨md, hmd⟩ : ∃ md, ls.isSome = md := ⟨_, rfl⟩
  have HG := Aside0.mk (show (Lit.int .i64 g).wf = true by rw [← hg, ← hls]; exact hwl e.nn)
  rw [hg, hmd] at hl HF
  have CS : Aside0 (∀ W, Dj w W B b n m1 m2 m e → Calls Try.prog 33 #[pA b, .agg #[.int .i64 e.nn, .int .i64 g]] W fun r w' => r = .returned (.int .i64 (m.st (e.nn, g))) ∧ Below W.heap.size W w') := ⟨fun W hW => model_status e.nn g HW.out.2.2.1 HG.out hW.md⟩
  obtain ⟨sg, hsg⟩ : ∃ sg, m.st (e.nn, g) = sg := ⟨_, rfl⟩
  rw [hsg] at CS HF
  have HOK := HF
  clear hg hmd hls hsg hwl HF
  have hcx := fun i => blk_cell HJ.out.xb i; have hce := fun i => blk_cell HJ.out.eb i; have hlx := blk_lt HJ.out.xb; have hle := blk_lt HJ.out.eb; have hcm := fun i => HJ.out.md.cell i; have hlm := HJ.out.md.lt
  go_enter Try.func76, Try.ntmps76
  go_wp2
  go_quiet (fail)
  clear hl
  cases md with
  | false =>
    go_wp2_with (first | (go_at_call 33; (with_reducible refine (CS.out _ (HJ.out.drewN _)).mono ?_); rintro r w2 ⟨rfl, hb2⟩; have HJ2 := Aside0.mk ((HJ.out.drewN _).step hb2); clear hb2 hcx hce hlx hle hcm hlm; have HJ := HJ2; have hcx := fun i => blk_cell HJ.out.xb i; have hce := fun i => blk_cell HJ.out.eb i; have hlx := blk_lt HJ.out.xb; have hle := blk_lt HJ.out.eb; have hcm := fun i => HJ.out.md.cell i; have hlm := HJ.out.md.lt) | (go_at_call 73; (with_reducible refine (un_start true (by have := HN.out; omega) HW.out.2.2.1 HW.out.2.2.2 HJ2.out.md HJ2.out.eb HJ2.out.xb).mono ?_); rintro r w4 ⟨rfl, hm, hf⟩; have HM := Aside0.mk (And.intro hm (HJ2.out.fr.trans hf)); clear hm hf))
    go_ret
    exact DoPost.of (HOK.out.trans (by rfl)) rfl HM.out.1 HM.out.2
  | true =>
    by_cases hs1 : sg = 1
    · have g1 : (sg != 1) = false := bne_eq_false_iff_eq.2 (hs1)
      have HS1 := Aside0.mk g1
      clear hs1
      go_wp2_with (first | (go_at_call 33; (with_reducible refine (CS.out _ (HJ.out.drewN _)).mono ?_); rintro r w2 ⟨rfl, hb2⟩; have HJ2 := Aside0.mk ((HJ.out.drewN _).step hb2); clear hb2 hcx hce hlx hle hcm hlm; have HJ := HJ2; have hcx := fun i => blk_cell HJ.out.xb i; have hce := fun i => blk_cell HJ.out.eb i; have hlx := blk_lt HJ.out.xb; have hle := blk_lt HJ.out.eb; have hcm := fun i => HJ.out.md.cell i; have hlm := HJ.out.md.lt) | (go_at_call 73; (with_reducible refine (un_start false (by have := HN.out; omega) HW.out.2.2.1 HW.out.2.2.2 HJ2.out.md HJ2.out.eb HJ2.out.xb).mono ?_); rintro r w4 ⟨rfl, hm, hf⟩; have HM := Aside0.mk (And.intro hm (HJ2.out.fr.trans hf)); clear hm hf))
      go_ret
      exact DoPost.of (HOK.out.trans (by rw [HS1.out]; rfl)) rfl HM.out.1 HM.out.2
    · have g1 : (sg != 1) = true := bne_iff_ne.2 (hs1)
      have HS1 := Aside0.mk g1
      clear hs1
      go_wp2_with (first | (go_at_call 33; (with_reducible refine (CS.out _ (HJ.out.drewN _)).mono ?_); rintro r w2 ⟨rfl, hb2⟩; have HJ2 := Aside0.mk ((HJ.out.drewN _).step hb2); clear hb2 hcx hce hlx hle hcm hlm; have HJ := HJ2; have hcx := fun i => blk_cell HJ.out.xb i; have hce := fun i => blk_cell HJ.out.eb i; have hlx := blk_lt HJ.out.xb; have hle := blk_lt HJ.out.eb; have hcm := fun i => HJ.out.md.cell i; have hlm := HJ.out.md.lt) | (go_at_call 73; (with_reducible refine (un_start (decide (g < e.ng)) (by have := HN.out; omega) HW.out.2.2.1 HW.out.2.2.2 HJ2.out.md HJ2.out.eb HJ2.out.xb).mono ?_); rintro r w4 ⟨rfl, hm, hf⟩; have HM := Aside0.mk (And.intro hm (HJ2.out.fr.trans hf)); clear hm hf))
      go_ret
      exact DoPost.of (HOK.out.trans (by rw [HS1.out]; rfl)) rfl HM.out.1 HM.out.2

theorem point_any {w : World} {B b n m1 m2 : Nat} {m : Md} (e : Ev) (hw : (Lit.int .i64 e.hn).wf = true ∧ (Lit.int .i64 e.hg).wf = true ∧ (Lit.int .i64 e.nn).wf = true ∧ (Lit.int .i64 e.ng).wf = true) (hn : n + 1 ≤ 1000000) (hwl : ∀ x, (Lit.int .i64 ((m.lst x).getD 0)).wf = true) (h : MdIs w B b n m m1 m2) :
    Calls Try.prog 76 #[pA b, .agg (evA e), .bool (m.st e.h == 1)] w (DoPost w B b n m1 m2 (pointF m e)) := by
  by_cases n2 : e.op = 2
  · cases hy : e.y with
    | true => exact point_cancel e hw hn h n2 hy
    | false => exact point_cancel_no e hw hn h n2 hy
  by_cases h0 : e.er = 0
  · by_cases n1 : e.op = 1
    · exact point_start e hw hn hwl h n1 h0
    by_cases n4 : e.op = 4
    · exact point_migrate e hw hn h n4 h0
    by_cases hx : e.nn = e.hn
    · exact point_rearm e hw hn h n2 n1 n4 h0 hx
    · exact point_rearm_node e hw hn h n2 n1 n4 h0 hx
  · by_cases n1 : e.op = 1
    · exact point_err1 e hw hn h n1 h0
    · by_cases h4 : e.er = 4
      · exact point_stale e hw hn h n2 n1 h4
      · exact point_err e hw hn h n2 h0 h4

end Go.Proofs.Ythniclbmpeklmaa.Ju
