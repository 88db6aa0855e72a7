/- What is proved: a part of the way to the statement ModelPlaysSaid: MoF, JuI, JuD, JuE, JuF, JuG, JuS, MoG, KJfx0, KJfx1, KJfx2, MoH; no conditions. Put together by a program of this session (claimv.py). -/
import Derived.Test.YthniclbmpeklmaaProg
import Derived.Below
import Derived.Deep.Draws
import Derived.Deep.AppendLies
import Derived.Maps.AppendAt
import Derived.OwnWalk
import Derived.Laws.BytesArg
import Derived.Laws.MakeOwn
import Derived.Laws.OwnMore
import Derived.Deep.OwnRows
import Derived.Tactics
import Derived.Lib.ConvBytes
import Derived.Laws.Slices
import Derived.WalkKit
import Derived.KernelRfl
import Derived.RowKit3
import Derived.Deep.LoopGhost
import Derived.Deep.QuietTactic
import Derived.BigQuiet
import Derived.WideLaws
import Derived.Deep.DeepCutAuto
import Derived.Deep.CutBlock
import Derived.Deep.RegionHeld3
import Derived.Laws.Rows
import Derived.Lib.AppendStr
import Derived.ArgAppend
import Derived.Laws.IdiomCopy
import Derived.OrdersHeld
import Derived.Laws.BitsLemmas
import Derived.RowKit
import Derived.Test.YthniclbmpeklmaaVmp2
section
namespace Go.Proofs.Ythniclbmpeklmaa.Mo
open Go.RowKit Go.Maps Go.Shelf Go.Lib Go.Sort Go.Proofs.YthniclbmpeklmaaW.PrintWords Go.Proofs.YthniclbmpeklmaaW.PrintLast Go.Proofs.YthniclbmpeklmaaW.PrintMore Go.Proofs.Ythniclbmpeklmaa.Mp Go.Proofs.Ythniclbmpeklmaa.Ju
open Go.Proofs.Ythniclbmpeklmaa.Au (Ha RowIs flat_get flat_len haV lawH types_ne)
set_option linter.unusedVariables false
set_option linter.unusedSimpArgs false
def LeastIs (L : List Tm) (d : Int) : Prop := (L = [] ∧ d = -1) ∨ ((∃ x ∈ L, x.2 = d) ∧ ∀ x ∈ L, d ≤ x.2)
theorem tm_field (a b d : Int) (W : World) : (Instr.field 81 (.agg #[.int .i64 a, .int .i64 b, .int .i64 d]) 1).run Try.prog W = .ok (.int .i64 d) W := by first | kernel_rfl | rfl | (have hu2 := Try.underlying81; simp [Instr.field, go_sem, hu2])
structure Mi (w W : World) (B : Nat) (v : Value) (L : List Tm) (g i : Nat) (y : Tm) : Prop where
 row : RowIs W B 81 3 tmA v L
 blk : W.heap[g]? = some (.cells (tmA y) 81 (0, 0))
 r : W.heap[w.heap.size]? = some (.cells #[.int .i64 0, .int .i64 0, .int .i64 0] 81 (0, 0))
 own : ∀ q, v.ownBlock = some q → q < w.heap.size
 lt : w.heap.size < g
 bel : Below w.heap.size w W
 mem : y ∈ L.take i
 le : ∀ x ∈ L.take i, y.2 ≤ x.2
theorem Mi.step {w W W1 : World} {B : Nat} {v : Value} {L : List Tm} {g i : Nat} {y : Tm} (h : Mi w W B v L g i y) (hb : Below W.heap.size W W1) : Mi w W1 B v L g i y := ⟨pw_own_below h.row hb, blk_below h.blk hb, blk_below h.r hb, h.own, h.lt, below_step h.bel hb, h.mem, h.le⟩
theorem cmp_neg {a b : Int} : compareInt a b < 0 ↔ a < b := by
 unfold compareInt
 split
 ·simp; assumption
 ·split <;> simp <;> omega
theorem Mi.keep {w W : World} {B : Nat} {v : Value} {L : List Tm} {g i : Nat} {y x : Tm} (h : Mi w W B v L g i y) (hx : L[i]? = some x) (hc : y.2 ≤ x.2) : Mi w W B v L g (i + 1) y := by
 obtain ⟨hi, rfl⟩ := List.getElem?_eq_some_iff.1 hx
 refine ⟨h.row, h.blk, h.r, h.own, h.lt, h.bel, ?_, fun z hz => ?_⟩
 ·rw [List.take_succ_eq_append_getElem hi]; exact List.mem_append.2 (.inl h.mem)
 ·rw [List.take_succ_eq_append_getElem hi, List.mem_append, List.mem_singleton] at hz
  rcases hz with hz | rfl
  ·exact h.le z hz
  ·exact hc
theorem Mi.put {w W : World} {B : Nat} {v : Value} {L : List Tm} {g i : Nat} {y x : Tm} (h : Mi w W B v L g i y) (hx : L[i]? = some x) (hc : x.2 < y.2) : Mi w (((W.setCell ⟨g, 0, none⟩ (.int .i64 x.1.1)).setCell ⟨g, 1, none⟩ (.int .i64 x.1.2)).setCell ⟨g, 2, none⟩ (.int .i64 x.2)) B v L g (i + 1) x := by
 obtain ⟨hi, rfl⟩ := List.getElem?_eq_some_iff.1 hx
 have far : ∀ q, q ≠ g → (((W.setCell ⟨g, 0, none⟩ (.int .i64 L[i].1.1)).setCell ⟨g, 1, none⟩ (.int .i64 L[i].1.2)).setCell ⟨g, 2, none⟩ (.int .i64 L[i].2)).heap[q]? = W.heap[q]? := fun q hq => ((Below.heap_setCell _ _ _ _ hq).trans (Below.heap_setCell _ _ _ _ hq)).trans (Below.heap_setCell _ _ _ _ hq)
 have hlt := h.lt
 refine ⟨?_, blk_put (blk_put (blk_put h.blk 0 _ rfl) 1 _ rfl) 2 _ rfl, (far _ (by omega)).trans h.r, h.own, h.lt, below_set (below_set (below_set h.bel (Nat.le_of_lt hlt)) (Nat.le_of_lt hlt)) (Nat.le_of_lt hlt), ?_, fun z hz => ?_⟩
 ·refine ⟨h.row.1, ?_⟩
  rcases h.row.2 with q | ⟨g2, cap, cur, hv, hb, hg, q⟩
  ·exact .inl q
  ·have := h.own g2 (by rw [hv]; rfl)
   exact .inr ⟨g2, cap, cur, hv, hb, (far g2 (by omega)).trans hg, q⟩
 ·rw [List.take_succ_eq_append_getElem hi]; exact List.mem_append.2 (.inr (by simp))
 ·rw [List.take_succ_eq_append_getElem hi, List.mem_append, List.mem_singleton] at hz
  rcases hz with hz | rfl
  ·have := h.le z hz; omega
  ·exact Int.le_refl _
def mfR.T7 : Bool × List (List Nat × List Nat) := (true, [([], []), ([], []), ([], []), ([1, 2], [1, 2]), ([3], [3]), ([], []), ([0, 4, 5], [0, 4, 5]), ([6], [6])])
def mfR.B7 : List Nat := [0, 0, 0, 6, 14, 0, 63, 127]
theorem mfR.tab7 : rtab .any (opsOf Try.f77 7) = mfR.T7 := by kernel_rfl
theorem mfR.bits7 : waitsOk mfR.T7.2 mfR.B7 = true := by kernel_rfl
theorem List.take_one_eq {α : Type} {l : List α} {x : α} (h : l[0]? = some x) : l.take 1 = [x] := by
 cases l with
 | nil => cases h
 | cons y r => obtain rfl := Option.some.inj h; rfl
set_option maxHeartbeats 8000000 in
set_option maxRecDepth 100000 in
theorem min_any {B : Nat} {w : World} {v : Value} {L : List Tm} (h : RowIs w B 81 3 tmA v L) (hpos : 0 < L.length) (hn : L.length ≤ 1000000) :
  Calls Try.prog 77 #[v, .func (.func 78) #[] #[]] w fun r w' => ∃ y, r = .returned (.agg (tmA y)) ∧ y ∈ L ∧ (∀ x ∈ L, y.2 ≤ x.2) ∧ Below w.heap.size w w' := by
 have hu3 := Try.underlying81
 have hu2 := Try.underlying34
 have hu4 := Try.underlying78
 obtain ⟨x0, hx0⟩ : ∃ x, L[0]? = some x := ⟨_, List.getElem?_eq_getElem hpos⟩
 obtain ⟨gr, cap, rfl, hcp, hgl, hcell⟩ := h.at_ (fun _ => rfl) hx0
 have d0 := hcell 0 (by decide)
 have d1 := hcell 1 (by decide)
 have d2 := hcell 2 (by decide)
 rw [Nat.zero_mul] at d0 d1 d2
 simp only [Nat.zero_add, Nat.add_zero] at d0 d1 d2
 have d0 : w.cell? ⟨gr, 0, none⟩ = some (.int .i64 x0.1.1) := d0
 have d1 : w.cell? ⟨gr, 1, none⟩ = some (.int .i64 x0.1.2) := d1
 have d2 : w.cell? ⟨gr, 2, none⟩ = some (.int .i64 x0.2) := d2
 have p1 : (0 : Int) < (L.length : Int) := by omega
 have p1n : ((L.length : Int) < 1) = False := eq_false (by omega)
 have HN := Aside0.mk hn
 have HP := Aside0.mk hpos
 have HS := Aside0.mk (show Mi w ((w.alloc (.cells #[.int .i64 0, .int .i64 0, .int .i64 0] 81)).alloc (.cells (tmA x0) 81)) B (.slice (some ⟨gr, 0, none⟩) L.length cap) L (w.heap.size + 1) 1 x0 from ⟨pw_own_below h (below_alloc (below_alloc (Below.refl _ _) _) _), (by have q := blk_new (w.alloc (.cells #[.int .i64 0, .int .i64 0, .int .i64 0] 81)) (.cells (tmA x0) 81); rw [show (w.alloc (.cells #[.int .i64 0, .int .i64 0, .int .i64 0] 81)).heap.size = w.heap.size + 1 by simp] at q; exact q), blk_alloc (blk_new _ _) _, fun q hq => by (have e : gr = q := by simpa [Value.ownBlock] using hq); omega, by omega, below_alloc (below_alloc (Below.refl _ _) _) _, by rw [List.take_one_eq hx0]; simp, fun z hz => by rw [List.take_one_eq hx0] at hz; rw [List.mem_singleton.1 hz]; exact Int.le_refl _⟩)
 clear h hcell hx0 hcp hpos hn
 go_enter Try.func77, Try.ntmps77
 go_wp2
 go_loopw [6] (fun v wr => ∃ (i : Nat) (y : Tm), 1 ≤ i ∧ i ≤ L.length ∧ v = .int .i64 i ∧ Aside0 (Mi w wr B (.slice (some ⟨gr, 0, none⟩) L.length cap) L (w.heap.size + 1) i y)) (fun v _ => L.length - (intOf v).toNat)
 case atStart => exact ⟨1, x0, by omega, HP.out, rfl, HS⟩
 case round =>
  clear HS d0 d1 d2
  obtain ⟨i, y, h1i, hi, rfl, HI⟩ := hrel
  have hgg : w.heap.size + 1 = w.heap.size + 1 := rfl
  obtain ⟨g, hg⟩ : ∃ g, w.heap.size + 1 = g := ⟨_, rfl⟩
  rw [hg] at HI ⊢
  have hcy := fun j => blk_cell HI.out.blk j
  have hly := blk_lt HI.out.blk
  clear hgg
  rcases Nat.lt_or_ge i L.length with hlt | hge
  ·have p0 : (0 : Int) ≤ (i : Int) := by omega
   have q0 : (i : Int) < (L.length : Int) := by omega
   obtain ⟨x, hx⟩ : ∃ x, L[i]? = some x := ⟨_, List.getElem?_eq_getElem hlt⟩
   obtain ⟨g2, cp, hv, hcp, hgl, hcell⟩ := HI.out.row.at_ (fun _ => rfl) hx
   obtain ⟨e1, e2⟩ : gr = g2 ∧ cap = cp := by injection hv with q1 q2 q3; exact ⟨by injection q1 with q1; injection q1, q3⟩
   subst e1
   subst e2
   have hnn : wrap64 ((i : Int) + 1) = ((i + 1 : Nat) : Int) := by have := HN.out; unfold wrap64; omega
   have d0 := hcell 0 (by decide)
   have d1 := hcell 1 (by decide)
   have d2 := hcell 2 (by decide)
   rw [Nat.add_zero] at d0
   have d0 : wr.cell? ⟨gr, i * 3, none⟩ = some (.int .i64 x.1.1) := d0
   have d1 : wr.cell? ⟨gr, i * 3 + 1, none⟩ = some (.int .i64 x.1.2) := d1
   have d2 : wr.cell? ⟨gr, i * 3 + 2, none⟩ = some (.int .i64 x.2) := d2
   have HX := Aside0.mk hx
   have HLT := Aside0.mk hlt
   clear hcell hx hv hcp hlt
   replace q0 := eq_true q0
   replace p0 := eq_true p0
   by_cases hc : compareInt x.2 y.2 < 0
   ·have b0 : decide (compareInt x.2 y.2 < 0) = true := decide_eq_true hc
    have HC := Aside0.mk hc
    clear hc
    go_upto_region 7 with (fail)
    refine start_ (n := 8) (S := (fun w' => (∀ j, w'.cell? ⟨g, j, none⟩ = (#[.int .i64 y.1.1, .int .i64 y.1.2, .int .i64 y.2] : Array Value)[j]?) ∧ (w'.cell? ⟨gr, i * 3, none⟩ = some (.int .i64 x.1.1)) ∧ (w'.cell? ⟨gr, i * 3 + 1, none⟩ = some (.int .i64 x.1.2)) ∧ (w'.cell? ⟨gr, i * 3 + 2, none⟩ = some (.int .i64 x.2)))) (ds := []) #[ff,ff,ff,ff,ff,ff,ff,ff] (by kernel_rfl) rfl rfl ⟨fun j => blk_cell (blk_below HI.out.blk (below_drew (Below.refl _ _))) j, pw_cell_below (below_drew (Below.refl wr.heap.size wr)) d0, pw_cell_below (below_drew (Below.refl wr.heap.size wr)) d1, pw_cell_below (below_drew (Below.refl wr.heap.size wr)) d2⟩ (fun hHeld => ?_)
    refine with_tabW mfR.tab7 mfR.bits7 (fun HT_ HW_ => ?_)
    have H3 := Aside0.mk (HI.out.step (below_drew (Below.refl _ _)))
    have HC3 := Aside0.mk (And.intro (pw_cell_below (below_drew (Below.refl wr.heap.size wr)) d0) (And.intro (pw_cell_below (below_drew (Below.refl wr.heap.size wr)) d1) (pw_cell_below (below_drew (Below.refl wr.heap.size wr)) d2)))
    generalize wr.drew = w3 at H3 HC3 hHeld ⊢
    refine pure_ (i := 0) (N := (some 20)) (v := ?_) (a' := ?_) #[tt,ff,ff,ff,ff,ff,ff,ff] rfl rfl (any_of HT_.out (by kernel_rfl)) (fun _ _ _ h => h) (Or.inl ⟨by rfl, ?_⟩) ?_ ?_
    rotate_left
    ·intro w'
     go_simp
     with_reducible rfl
    rotate_left
    ·simp only [Act.put, sQ0, sQ1, sQ2, i64_w]
     rfl
    refine pure_ (i := 1) (N := (some 21)) (v := ?_) (a' := ?_) #[tt,tt,ff,ff,ff,ff,ff,ff] rfl rfl (any_of HT_.out (by kernel_rfl)) (fun _ _ _ h => h) (Or.inl ⟨by rfl, ?_⟩) ?_ ?_
    rotate_left
    ·intro w'
     go_simp
     with_reducible rfl
    rotate_left
    ·simp only [Act.put, sQ0, sQ1, sQ2, i64_w]
     rfl
    refine pure_ (i := 2) (N := (some 22)) (v := ?_) (a' := ?_) #[tt,tt,tt,ff,ff,ff,ff,ff] rfl rfl (any_of HT_.out (by kernel_rfl)) (fun _ _ _ h => h) (Or.inl ⟨by rfl, ?_⟩) ?_ ?_
    rotate_left
    ·intro w'
     go_simp
     with_reducible rfl
    rotate_left
    ·simp only [Act.put, sQ0, sQ1, sQ2, i64_w]
     rfl
    refine pure_ (i := 3) (N := (some 23)) (v := ?_) (a' := ?_) #[tt,tt,tt,tt,ff,ff,ff,ff] rfl rfl (any_of HT_.out (by kernel_rfl)) (fun _ _ _ h => h) (Or.inl ⟨by rfl, ?_⟩) ?_ ?_
    rotate_left
    ·intro w'
     go_simp
     with_reducible rfl
    rotate_left
    ·simp only [Act.put, sQ0, sQ1, sQ2, i64_w]
     rfl
    refine take_ (i := 4) (N := (some 24)) (v := ?_) (a' := ?_) #[tt,tt,tt,tt,tt,ff,ff,ff] rfl rfl (take_ofW HT_.out HW_.out (by kernel_rfl)) (fun _ _ _ h => h) (Or.inl ⟨by rfl, ?_⟩) hHeld ?_ ?_
    rotate_left
    ·rintro w' ⟨s0, s1, s2, s3⟩
     go_simp
     with_reducible rfl
    rotate_left
    ·simp only [Act.put, sQ0, sQ1, sQ2, i64_w]
     rfl
    refine take_ (i := 5) (N := (some 25)) (v := ?_) (a' := ?_) #[tt,tt,tt,tt,tt,tt,ff,ff] rfl rfl (take_ofW HT_.out HW_.out (by kernel_rfl)) (fun _ _ _ h => h) (Or.inl ⟨by rfl, ?_⟩) hHeld ?_ ?_
    rotate_left
    ·rintro w' ⟨s0, s1, s2, s3⟩
     go_simp
     with_reducible rfl
    rotate_left
    ·simp only [Act.put, sQ0, sQ1, sQ2, i64_w]
     rfl
    refine one_ (i := 6) (N := (some 26)) #[tt,tt,tt,tt,tt,tt,tt,ff] rfl rfl (one_of HT_.out (by kernel_rfl)) (by decide) (fun K hK => ?_)
    refine call_ (f := 78) #[.agg #[.int .i64 x.1.1, .int .i64 x.1.2, .int .i64 x.2], .agg #[.int .i64 y.1.1, .int .i64 y.1.2, .int .i64 y.2]] (by rfl) rfl (by go_simp <;> rfl) ?_
    refine (closureL x y w3).mono ?_
    rintro rr w4 ⟨rfl, hb⟩
    refine ⟨_, rfl, ?_⟩
    have H4 := Aside0.mk (H3.out.step hb)
    have HC4 := Aside0.mk (And.intro (pw_cell_below hb HC3.out.1) (And.intro (pw_cell_below hb HC3.out.2.1) (pw_cell_below hb HC3.out.2.2)))
    clear hb
    refine hK.out _ _ ⟨fun j => blk_cell H4.out.blk j, HC4.out⟩ (fun hHeld => ?_)
    clear hK K
    refine norm_ (a' := ?_) ?_ ?_
    rotate_left
    ·show Act.put _ (some 26) _ = _
     simp only [Act.put, sQ0, sQ1, sQ2, i64_w]
     rfl
    refine pure_ (i := 7) (N := (some 27)) (v := ?_) (a' := ?_) #[tt,tt,tt,tt,tt,tt,tt,tt] rfl rfl (any_of HT_.out (by kernel_rfl)) (fun _ _ _ h => h) (Or.inl ⟨by rfl, ?_⟩) ?_ ?_
    rotate_left
    ·intro w'
     go_simp
     with_reducible rfl
    rotate_left
    ·simp only [Act.put, sQ0, sQ1, sQ2, i64_w]
     rfl
    refine done_ (done_of HT_.out (by kernel_rfl)) ?_
    clear hHeld
    have HP := Aside0.mk (H4.out.put HX.out (cmp_neg.1 HC.out))
    have hcg := fun j => blk_cell H4.out.blk j
    have hfg := fun j => blk_frozen H4.out.blk j
    have hlg := blk_lt H4.out.blk
    obtain ⟨e0, e1, e2⟩ := HC4.out
    go_wp2
    go_roundw
    case rel => exact ⟨i + 1, x, by omega, by have := HLT.out; omega, by first | rw [hnn] | simp, HP⟩
    case measure => have := HLT.out; first | (rw [hnn]; simp [intOf]; omega) | (simp [intOf]; omega)
   ·have b0 : decide (compareInt x.2 y.2 < 0) = false := decide_eq_false hc
    have HC := Aside0.mk hc
    clear hc
    go_upto_region 7 with (fail)
    refine start_ (n := 8) (S := (fun w' => (∀ j, w'.cell? ⟨g, j, none⟩ = (#[.int .i64 y.1.1, .int .i64 y.1.2, .int .i64 y.2] : Array Value)[j]?) ∧ (w'.cell? ⟨gr, i * 3, none⟩ = some (.int .i64 x.1.1)) ∧ (w'.cell? ⟨gr, i * 3 + 1, none⟩ = some (.int .i64 x.1.2)) ∧ (w'.cell? ⟨gr, i * 3 + 2, none⟩ = some (.int .i64 x.2)))) (ds := []) #[ff,ff,ff,ff,ff,ff,ff,ff] (by kernel_rfl) rfl rfl ⟨fun j => blk_cell (blk_below HI.out.blk (below_drew (Below.refl _ _))) j, pw_cell_below (below_drew (Below.refl wr.heap.size wr)) d0, pw_cell_below (below_drew (Below.refl wr.heap.size wr)) d1, pw_cell_below (below_drew (Below.refl wr.heap.size wr)) d2⟩ (fun hHeld => ?_)
    refine with_tabW mfR.tab7 mfR.bits7 (fun HT_ HW_ => ?_)
    have H3 := Aside0.mk (HI.out.step (below_drew (Below.refl _ _)))
    have HC3 := Aside0.mk (And.intro (pw_cell_below (below_drew (Below.refl wr.heap.size wr)) d0) (And.intro (pw_cell_below (below_drew (Below.refl wr.heap.size wr)) d1) (pw_cell_below (below_drew (Below.refl wr.heap.size wr)) d2)))
    generalize wr.drew = w3 at H3 HC3 hHeld ⊢
    refine pure_ (i := 0) (N := (some 20)) (v := ?_) (a' := ?_) #[tt,ff,ff,ff,ff,ff,ff,ff] rfl rfl (any_of HT_.out (by kernel_rfl)) (fun _ _ _ h => h) (Or.inl ⟨by rfl, ?_⟩) ?_ ?_
    rotate_left
    ·intro w'
     go_simp
     with_reducible rfl
    rotate_left
    ·simp only [Act.put, sQ0, sQ1, sQ2, i64_w]
     rfl
    refine pure_ (i := 1) (N := (some 21)) (v := ?_) (a' := ?_) #[tt,tt,ff,ff,ff,ff,ff,ff] rfl rfl (any_of HT_.out (by kernel_rfl)) (fun _ _ _ h => h) (Or.inl ⟨by rfl, ?_⟩) ?_ ?_
    rotate_left
    ·intro w'
     go_simp
     with_reducible rfl
    rotate_left
    ·simp only [Act.put, sQ0, sQ1, sQ2, i64_w]
     rfl
    refine pure_ (i := 2) (N := (some 22)) (v := ?_) (a' := ?_) #[tt,tt,tt,ff,ff,ff,ff,ff] rfl rfl (any_of HT_.out (by kernel_rfl)) (fun _ _ _ h => h) (Or.inl ⟨by rfl, ?_⟩) ?_ ?_
    rotate_left
    ·intro w'
     go_simp
     with_reducible rfl
    rotate_left
    ·simp only [Act.put, sQ0, sQ1, sQ2, i64_w]
     rfl
    refine pure_ (i := 3) (N := (some 23)) (v := ?_) (a' := ?_) #[tt,tt,tt,tt,ff,ff,ff,ff] rfl rfl (any_of HT_.out (by kernel_rfl)) (fun _ _ _ h => h) (Or.inl ⟨by rfl, ?_⟩) ?_ ?_
    rotate_left
    ·intro w'
     go_simp
     with_reducible rfl
    rotate_left
    ·simp only [Act.put, sQ0, sQ1, sQ2, i64_w]
     rfl
    refine take_ (i := 4) (N := (some 24)) (v := ?_) (a' := ?_) #[tt,tt,tt,tt,tt,ff,ff,ff] rfl rfl (take_ofW HT_.out HW_.out (by kernel_rfl)) (fun _ _ _ h => h) (Or.inl ⟨by rfl, ?_⟩) hHeld ?_ ?_
    rotate_left
    ·rintro w' ⟨s0, s1, s2, s3⟩
     go_simp
     with_reducible rfl
    rotate_left
    ·simp only [Act.put, sQ0, sQ1, sQ2, i64_w]
     rfl
    refine take_ (i := 5) (N := (some 25)) (v := ?_) (a' := ?_) #[tt,tt,tt,tt,tt,tt,ff,ff] rfl rfl (take_ofW HT_.out HW_.out (by kernel_rfl)) (fun _ _ _ h => h) (Or.inl ⟨by rfl, ?_⟩) hHeld ?_ ?_
    rotate_left
    ·rintro w' ⟨s0, s1, s2, s3⟩
     go_simp
     with_reducible rfl
    rotate_left
    ·simp only [Act.put, sQ0, sQ1, sQ2, i64_w]
     rfl
    refine one_ (i := 6) (N := (some 26)) #[tt,tt,tt,tt,tt,tt,tt,ff] rfl rfl (one_of HT_.out (by kernel_rfl)) (by decide) (fun K hK => ?_)
    refine call_ (f := 78) #[.agg #[.int .i64 x.1.1, .int .i64 x.1.2, .int .i64 x.2], .agg #[.int .i64 y.1.1, .int .i64 y.1.2, .int .i64 y.2]] (by rfl) rfl (by go_simp <;> rfl) ?_
    refine (closureL x y w3).mono ?_
    rintro rr w4 ⟨rfl, hb⟩
    refine ⟨_, rfl, ?_⟩
    have H4 := Aside0.mk (H3.out.step hb)
    have HC4 := Aside0.mk (And.intro (pw_cell_below hb HC3.out.1) (And.intro (pw_cell_below hb HC3.out.2.1) (pw_cell_below hb HC3.out.2.2)))
    clear hb
    refine hK.out _ _ ⟨fun j => blk_cell H4.out.blk j, HC4.out⟩ (fun hHeld => ?_)
    clear hK K
    refine norm_ (a' := ?_) ?_ ?_
    rotate_left
    ·show Act.put _ (some 26) _ = _
     simp only [Act.put, sQ0, sQ1, sQ2, i64_w]
     rfl
    refine pure_ (i := 7) (N := (some 27)) (v := ?_) (a' := ?_) #[tt,tt,tt,tt,tt,tt,tt,tt] rfl rfl (any_of HT_.out (by kernel_rfl)) (fun _ _ _ h => h) (Or.inl ⟨by rfl, ?_⟩) ?_ ?_
    rotate_left
    ·intro w'
     go_simp
     with_reducible rfl
    rotate_left
    ·simp only [Act.put, sQ0, sQ1, sQ2, i64_w]
     rfl
    refine done_ (done_of HT_.out (by kernel_rfl)) ?_
    clear hHeld
    have HP := Aside0.mk (H4.out.keep HX.out (by have := mt cmp_neg.2 HC.out; omega))
    go_wp2
    go_roundw
    case rel => exact ⟨i + 1, y, by omega, by have := HLT.out; omega, by first | rw [hnn] | simp, HP⟩
    case measure => have := HLT.out; first | (rw [hnn]; simp [intOf]; omega) | (simp [intOf]; omega)
  ·have q0 : ((i : Int) < (L.length : Int)) = False := eq_false (by omega)
   have HE := Aside0.mk (show L.take i = L from List.take_of_length_le hge)
   have hcg := fun j => blk_cell HI.out.blk j
   have hlg := blk_lt HI.out.blk
   have hcr := fun j => blk_cell HI.out.r j
   have hfr := fun j => blk_frozen HI.out.r j
   have hlr := blk_lt HI.out.r
   clear hge h1i
   go_wp2
   refine bodyPost_ret (v := .agg (tmA y)) ?_ rfl ⟨y, rfl, by have := HI.out.mem; rwa [HE.out] at this, by have := HI.out.le; rwa [HE.out] at this, below_set (below_set (below_set HI.out.bel (Nat.le_refl _)) (Nat.le_refl _)) (Nat.le_refl _)⟩
   have hrow := run_loadVar_row (P := Try.prog) _ (w.heap.size) 81 81 _ (0, 0) _ (blk_put (blk_put (blk_put HI.out.r 0 _ rfl) 1 _ rfl) 2 _ rfl : _ = some (Obj.cells (tmA y) 81 (0, 0))) hu3 rfl (by kernel_rfl)
   simp [results, Try.results77, asAddr, hrow]
set_option maxHeartbeats 8000000 in
set_option maxRecDepth 100000 in
theorem least_any {w : World} {B b n m1 m2 : Nat} {m : Md} (h : MdIs w B b n m m1 m2) (hn : n ≤ 1000000) :
  Calls Try.prog 44 #[pA b] w fun r w' => ∃ d L, r = .returned (.int .i64 d) ∧ ArmedIs m L ∧ LeastIs L d ∧ Below w.heap.size w w' := by
 have hu3 := Try.underlying81
 have CA := Aside0.mk (armed_any h hn)
 have HN := Aside0.mk hn
 clear h hn
 go_enter Try.func44, Try.ntmps44
 go_upto_region 2 with (first | (go_at_call 42; go_loud ((with_reducible refine CA.out.mono ?_); rintro rr w2 ⟨v, L, rfl, hR, hI, hL, hb⟩; obtain ⟨A2, c2, rfl, hc2⟩ := hR.form; have HR := Aside0.mk hR; have HI := Aside0.mk hI; have HL := Aside0.mk hL; have HB := Aside0.mk hb; clear hR hI hL hb hc2)))
 rcases Nat.eq_zero_or_pos L.length with h0 | hpos
 ·have b0 : ((L.length : Int) == 0) = true := beq_iff_eq.2 (by omega)
  have HZ := Aside0.mk h0
  clear h0
  go_wp2
  go_ret
  exact ⟨-1, L, rfl, HI.out, .inl ⟨List.length_eq_zero_iff.1 HZ.out, rfl⟩, HB.out⟩
 ·have b0 : ((L.length : Int) == 0) = false := beq_eq_false_iff_ne.2 (by omega)
  go_wp2_with (first | (go_at_call 77; go_loud ((with_reducible refine (min_any HR.out hpos (by have := HL.out; have := HN.out; omega)).mono ?_); rintro rr w3 ⟨y, rfl, hm, hle, hb⟩; have HM := Aside0.mk (And.intro hm hle); have HB3 := Aside0.mk hb; have hfd := fun W => tm_field y.1.1 y.1.2 y.2 W; clear hm hle hb)))
  go_ret
  exact ⟨y.2, L, rfl, HI.out, .inr ⟨⟨y, HM.out.1, rfl⟩, HM.out.2⟩, below_step HB.out HB3.out⟩
end Go.Proofs.Ythniclbmpeklmaa.Mo
end
section
namespace Go.Proofs.Ythniclbmpeklmaa.Ju
open Go.RowKit Go.Proofs.Ythniclbmpeklmaa.Au
set_option linter.unusedVariables false
set_option linter.unusedSimpArgs false
theorem right_op {e : Ev} (h : rightJ e = true) (hk : e.k = 3) : 1 ≤ e.op ∧ e.op ≤ 4 ∧ 0 ≤ e.ng ∧ 0 ≤ e.nn := by
 unfold rightJ Ev.evRight Ev.kindB at h
 rw [hk] at h
 simp at h
 omega
inductive Did (m : Md) (e : Ev) : Md → Prop
 | tick (hk : e.k = 1) (ht : e.t = wrap64 (m.clk + 1)) : Did m e { m with clk := e.t }
 | fire (hk : e.k = 4) (ha : m.st e.h = 1) (hd : m.dl e.h ≤ e.t) (hc : e.t ≤ m.clk) : Did m e (m.end_ e.h 2)
 | cancel (hk : e.k = 3) (ho : e.op = 2) (hy : e.y = true) (ha : m.st e.h = 1) : Did m e (m.end_ e.h 3)
 | same (hk : e.k = 3) (hm : mk1 e = false) (he : ends e = false) : Did m e m
 | start (hk : e.k = 3) (ho : e.op = 1) (he : e.er = 0) (hs : m.startOk e.new = true) : Did m e (m.arm e.new e.t)
 | rearm (hk : e.k = 3) (ho : e.op = 3) (he : e.er = 0) (ha : m.st e.h = 1) (h1 : e.nn = e.hn) (h2 : e.ng = wrap64 (e.hg + 1)) : Did m e ((m.end_ e.h 4).arm e.new e.t)
theorem did {m : Md} {e : Ev} (h : (doF m e).2 = 0) : rightJ e = true ∧ Did m e (doF m e).1 := by
 unfold doF at h ⊢
 by_cases hr : rightJ e = false
 ·rw [if_pos hr] at h; simp at h
 rw [if_neg hr] at h ⊢
 have hr' : rightJ e = true := by simpa using hr
 refine ⟨hr', ?_⟩
 by_cases k1 : e.k = 1
 ·rw [if_pos k1] at h ⊢
  by_cases ht : e.t = wrap64 (m.clk + 1)
  ·rw [if_pos ht]; exact .tick k1 ht
  ·rw [if_neg ht] at h; simp at h
 rw [if_neg k1] at h ⊢
 by_cases k4 : e.k = 4
 ·rw [if_pos k4] at h ⊢
  by_cases hc : m.st e.h = 1 ∧ m.dl e.h ≤ e.t ∧ e.t ≤ m.clk
  ·rw [if_pos hc]; exact .fire k4 hc.1 hc.2.1 hc.2.2
  ·rw [if_neg hc] at h; simp at h
 rw [if_neg k4] at h ⊢
 by_cases k3 : e.k = 3
 ·rw [if_pos k3] at h ⊢
  obtain ⟨o1, o4, _⟩ := right_op hr' k3
  unfold pointF at h ⊢
  by_cases c1 : e.op = 2 ∧ e.y = true
  ·rw [if_pos c1] at h ⊢
   by_cases ha : m.st e.h = 1
   ·rw [if_pos ha]; exact .cancel k3 c1.1 c1.2 ha
   ·rw [if_neg ha] at h; simp at h
  rw [if_neg c1] at h ⊢
  by_cases c2 : e.op = 2 ∨ (e.er = 4 ∧ e.op ≠ 1)
  ·rw [if_pos c2] at h ⊢
   have hs : Did m e m := .same k3 (by
    unfold mk1
    rcases c2 with c2 | ⟨c2, _⟩
    ·rw [c2]; simp
    ·rw [c2]; simp) (by
    unfold ends
    rcases c2 with c2 | ⟨c2, _⟩
    ·have : ¬ e.y = true := fun q => c1 ⟨c2, q⟩
     simp [c2, k3, this]
    ·simp [c2, k3]
     intro q
     have : ¬ e.y = true := fun z => c1 ⟨q, z⟩
     simpa using this)
   by_cases ha : m.st e.h = 1
   ·rw [if_pos ha] at h; simp at h
   ·rw [if_neg ha]; exact hs
  rw [if_neg c2] at h ⊢
  have n2 : e.op ≠ 2 := fun q => c2 (.inl q)
  by_cases c3 : e.er ≠ 0
  ·rw [if_pos c3]
   exact .same k3 (by unfold mk1; simp [c3]) (by unfold ends; simp [k3, n2, c3])
  rw [if_neg c3] at h ⊢
  have e0 : e.er = 0 := by omega
  by_cases c4 : e.op = 1
  ·rw [if_pos c4] at h ⊢
   by_cases hs : m.startOk e.new = true
   ·rw [if_pos hs]; exact .start k3 c4 e0 hs
   ·rw [if_neg hs] at h; simp at h
  rw [if_neg c4] at h ⊢
  by_cases c5 : e.op = 4
  ·rw [if_pos c5] at h ⊢
   have hs : Did m e m := .same k3 (by unfold mk1; simp [c5]) (by unfold ends; simp [k3, c5])
   by_cases ha : m.st e.h = 1
   ·rw [if_pos ha]; exact hs
   ·rw [if_neg ha] at h; simp at h
  rw [if_neg c5] at h ⊢
  by_cases hc : m.st e.h = 1 ∧ e.nn = e.hn ∧ e.ng = wrap64 (e.hg + 1)
  ·rw [if_pos hc]; exact .rearm k3 (by omega) e0 hc.1 hc.2.1 hc.2.2
  ·rw [if_neg hc] at h; simp at h
 ·rw [if_neg k3] at h; simp at h
structure MInv (m : Md) : Prop where
 top : ∀ h, m.fat h ≠ none → ∃ g, m.lst h.1 = some g ∧ h.2 ≤ g
 arm : ∀ h, m.st h = 1 → m.lst h.1 = some h.2
theorem st_fat {m : Md} {h : Ha} (hs : m.st h = 1) : m.fat h ≠ none := fun q => by unfold Md.st at hs; rw [q] at hs; simp at hs
theorem st_upd (m : Md) (h x : Ha) (v : Int × Int) : ({ m with fat := updF m.fat h v } : Md).st x = if x = h then v.1 else m.st x := by
 unfold Md.st updF
 by_cases e : x = h <;> simp [e]
theorem end_st (m : Md) (h x : Ha) (s : Int) : (m.end_ h s).st x = if x = h then s else m.st x := st_upd m h x (s, 0)
theorem arm_st (m : Md) (h x : Ha) (d : Int) : (m.arm h d).st x = if x = h then 1 else m.st x := st_upd m h x (1, d)
theorem end_fat (m : Md) (h x : Ha) (s : Int) : (m.end_ h s).fat x = if x = h then some (s, 0) else m.fat x := rfl
theorem arm_fat (m : Md) (h x : Ha) (d : Int) : (m.arm h d).fat x = if x = h then some (1, d) else m.fat x := rfl
theorem arm_lst (m : Md) (h : Ha) (d : Int) (n : Int) : (m.arm h d).lst n = if n = h.1 then some h.2 else m.lst n := rfl
theorem MInv0 : MInv md0 := ⟨fun h q => absurd rfl q, fun h q => by simp [md0, Md.st] at q⟩
theorem MInv.end_ {m : Md} (h : MInv m) {x : Ha} (hx : m.fat x ≠ none) {s : Int} (hs : s ≠ 1) : MInv (m.end_ x s) := by
 constructor
 ·intro y hy
  rw [end_fat] at hy
  by_cases e : y = x
  ·rw [e]; exact h.top x hx
  ·rw [if_neg e] at hy; exact h.top y hy
 ·intro y hy
  rw [end_st] at hy
  by_cases e : y = x
  ·rw [if_pos e] at hy; omega
  ·rw [if_neg e] at hy; exact h.arm y hy
theorem MInv.arm_ {m : Md} (h : MInv m) {x : Ha} {d : Int} (hn : ∀ g, m.lst x.1 = some g → g < x.2) (ha : ∀ y : Ha, y.1 = x.1 → m.st y ≠ 1) : MInv (m.arm x d) := by
 constructor
 ·intro y hy
  rw [arm_fat] at hy
  rw [arm_lst]
  by_cases e : y = x
  ·rw [e, if_pos rfl]; exact ⟨_, rfl, Int.le_refl _⟩
  ·rw [if_neg e] at hy
   obtain ⟨g, h1, h2⟩ := h.top y hy
   by_cases e1 : y.1 = x.1
   ·rw [if_pos e1]
    rw [e1] at h1
    have := hn g h1
    exact ⟨_, rfl, by omega⟩
   ·rw [if_neg e1]; exact ⟨g, h1, h2⟩
 ·intro y hy
  rw [arm_st] at hy
  rw [arm_lst]
  by_cases e : y = x
  ·rw [e, if_pos rfl]
  ·rw [if_neg e] at hy
   have e1 : y.1 ≠ x.1 := fun q => ha y q hy
   rw [if_neg e1]
   exact h.arm y hy
theorem MInv.start {m : Md} (h : MInv m) {x : Ha} (hs : m.startOk x = true) : (∀ g, m.lst x.1 = some g → g < x.2) ∧ (∀ y : Ha, y.1 = x.1 → m.st y ≠ 1) ∧ m.fat x = none := by
 unfold Md.startOk at hs
 have h1 : ∀ g, m.lst x.1 = some g → m.st (x.1, g) ≠ 1 ∧ g < x.2 := fun g hg => by
  rw [hg] at hs
  simpa using hs
 refine ⟨fun g hg => (h1 g hg).2, fun y hy hq => ?_, ?_⟩
 ·have := h.arm y hq
  rw [hy] at this
  have := (h1 _ this).1
  rw [← hy] at this
  exact this hq
 ·cases hf : m.fat x with
  | none => rfl
  | some v =>
   obtain ⟨g, hg, hle⟩ := h.top x (by rw [hf]; simp)
   have := (h1 g hg).2
   omega
theorem wrap_next {g n : Int} (hg : (Lit.int .i64 g).wf = true) (h0 : 0 ≤ n) (h : n = wrap64 (g + 1)) : n = g + 1 := by
 have h1 : IntKind.i64.min = -9223372036854775808 := rfl
 simp [Lit.wf, h1] at hg
 unfold wrap64 at h
 omega
theorem MInv.rearm {m : Md} (h : MInv m) {x y : Ha} (ha : m.st x = 1) (h1 : y.1 = x.1) (h2 : y.2 = x.2 + 1) {d : Int} : m.fat y = none ∧ MInv ((m.end_ x 4).arm y d) := by
 have hl := h.arm x ha
 have hx := st_fat ha
 have hy : m.fat y = none := by
  cases hf : m.fat y with
  | none => rfl
  | some v =>
   obtain ⟨g, hg, hle⟩ := h.top y (by rw [hf]; simp)
   rw [h1, hl] at hg
   have := Option.some.inj hg
   omega
 refine ⟨hy, (h.end_ hx (by omega)).arm_ (fun g hg => ?_) (fun z hz hq => ?_)⟩
 ·have hg' : m.lst y.1 = some g := hg
  rw [h1, hl] at hg'
  have := Option.some.inj hg'
  omega
 ·rw [end_st] at hq
  by_cases e : z = x
  ·rw [if_pos e] at hq; omega
  ·rw [if_neg e] at hq
   have h3 := h.arm z hq
   rw [hz, h1, hl] at h3
   exact e (Prod.ext (hz.trans h1) (Option.some.inj h3).symm)
theorem MInv.did {m m' : Md} {e : Ev} (h : MInv m) (hr : rightJ e = true) (hw : (Lit.int .i64 e.hg).wf = true) (hd : Did m e m') : MInv m' := by
 cases hd with
 | tick => exact ⟨h.top, h.arm⟩
 | fire hk ha => exact h.end_ (st_fat ha) (by omega)
 | cancel hk ho hy ha => exact h.end_ (st_fat ha) (by omega)
 | same => exact h
 | start hk ho he hs =>
  obtain ⟨a, b, c⟩ := h.start hs
  exact h.arm_ a b
 | rearm hk ho he ha h1 h2 => exact (h.rearm ha h1 (wrap_next hw (right_op hr hk).2.2.1 h2)).2
theorem right_k {e : Ev} (h : rightJ e = true) : e.k = 1 ∨ e.k = 2 ∨ e.k = 3 ∨ e.k = 4 ∨ e.k = 5 := by
 unfold rightJ Ev.evRight Ev.kindB at h
 simp at h
 omega
end Go.Proofs.Ythniclbmpeklmaa.Ju
end
section
namespace Go.Proofs.Ythniclbmpeklmaa.Ju
open Go.RowKit Go.Maps Go.Proofs.YthniclbmpeklmaaW.PrintWords Go.Proofs.YthniclbmpeklmaaW.PrintLast Go.Proofs.YthniclbmpeklmaaW.PrintMore Go.Proofs.Ythniclbmpeklmaa.Mp Go.Proofs.Ythniclbmpeklmaa.Au
set_option linter.unusedVariables false
set_option linter.unusedSimpArgs false
attribute [local go_sem high] Ev.eqHa
section
variable {w W W1 : World} {B : Nat}
end
section
variable {w W W1 : World} {B b n mb m1 m2 m3 eb : Nat} {s : Be} {pf : Int → Option Nat} {e : Ev}
end
section
variable {w W W1 : World} {B b n mb m1 m2 m3 eb g : Nat} {s : Be} {pf : Int → Option Nat} {e iv : Ev} {beg : Int} {pp : Option Addr}
end
end Go.Proofs.Ythniclbmpeklmaa.Ju
end
section
namespace Go.Proofs.Ythniclbmpeklmaa.Ju
open Go.RowKit Go.Maps Go.Proofs.YthniclbmpeklmaaW.PrintWords Go.Proofs.YthniclbmpeklmaaW.PrintLast Go.Proofs.YthniclbmpeklmaaW.PrintMore Go.Proofs.Ythniclbmpeklmaa.Mp Go.Proofs.Ythniclbmpeklmaa.Au
set_option linter.unusedVariables false
set_option linter.unusedSimpArgs false
attribute [local go_sem high] Ev.eqHa
end Go.Proofs.Ythniclbmpeklmaa.Ju
end
section
namespace Go.Proofs.Ythniclbmpeklmaa.Ju
open Go.RowKit Go.Maps Go.Proofs.YthniclbmpeklmaaW.PrintWords Go.Proofs.YthniclbmpeklmaaW.PrintLast Go.Proofs.YthniclbmpeklmaaW.PrintMore Go.Proofs.Ythniclbmpeklmaa.Mp Go.Proofs.Ythniclbmpeklmaa.Au
set_option linter.unusedVariables false
set_option linter.unusedSimpArgs false
attribute [local go_sem high] Ev.eqHa
end Go.Proofs.Ythniclbmpeklmaa.Ju
end
section
namespace Go.Proofs.Ythniclbmpeklmaa.Ju
open Go.RowKit Go.Maps Go.Proofs.YthniclbmpeklmaaW.PrintWords Go.Proofs.YthniclbmpeklmaaW.PrintLast Go.Proofs.YthniclbmpeklmaaW.PrintMore Go.Proofs.Ythniclbmpeklmaa.Mp Go.Proofs.Ythniclbmpeklmaa.Au
set_option linter.unusedVariables false
set_option linter.unusedSimpArgs false
def wfJ (e : Ev) : Prop := ((Lit.int .i64 e.hn).wf = true ∧ (Lit.int .i64 e.hg).wf = true ∧ (Lit.int .i64 e.nn).wf = true ∧ (Lit.int .i64 e.ng).wf = true) ∧ (Lit.int .i64 e.wk).wf = true
def LstOk (m : Md) : Prop := ∀ x, (Lit.int .i64 ((m.lst x).getD 0)).wf = true
theorem lst_arm {m : Md} (h : LstOk m) {x : Ha} {d : Int} (hx : (Lit.int .i64 x.2).wf = true) : LstOk (m.arm x d) := fun y => by
 show (Lit.int .i64 ((updL m.lst x.1 x.2 y).getD 0)).wf = true
 unfold updL
 by_cases q : y = x.1
 ·rw [if_pos q]; exact hx
 ·rw [if_neg q]; exact h y
theorem lst_end {m : Md} (h : LstOk m) (x : Ha) (s : Int) : LstOk (m.end_ x s) := h
theorem lst_point {m : Md} {e : Ev} (h : LstOk m) (hw : wfJ e) : LstOk (pointF m e).1 := by
 unfold pointF
 split
 ·split
  ·exact lst_end h _ _
  ·exact h
 ·split
  ·split <;> exact h
  ·split
   ·exact h
   ·split
    ·split
     ·exact lst_arm h hw.1.2.2.2
     ·exact h
    ·split
     ·split <;> exact h
     ·split
      ·exact lst_arm (lst_end h _ _) hw.1.2.2.2
      ·exact h
theorem lst_do {m : Md} {e : Ev} (h : LstOk m) (hw : wfJ e) : LstOk (doF m e).1 := by
 have hp := lst_point h hw
 unfold doF
 generalize pointF m e = q at hp ⊢
 split
 ·exact h
 ·split
  ·split <;> exact h
  ·split
   ·split
    ·exact lst_end h _ _
    ·exact h
   ·split
    ·exact hp
    ·exact h
def EvIn (w : World) (A : Option Addr) (i : Nat) (e : Ev) : Prop := ∃ ad, A = some ad ∧ w.cell? (ad.add (i * 12)) = some (.int .i64 e.k) ∧ w.cell? ⟨(ad.add (i * 12)).block, (ad.add (i * 12)).off + 1, none⟩ = some (.int .i64 e.wk) ∧ w.cell? ⟨(ad.add (i * 12)).block, (ad.add (i * 12)).off + 2, none⟩ = some (.int .i64 e.op) ∧ w.cell? ⟨(ad.add (i * 12)).block, (ad.add (i * 12)).off + 3, none⟩ = some (.int .i64 e.hn) ∧ w.cell? ⟨(ad.add (i * 12)).block, (ad.add (i * 12)).off + 4, none⟩ = some (.int .i64 e.hg) ∧ w.cell? ⟨(ad.add (i * 12)).block, (ad.add (i * 12)).off + 5, none⟩ = some (.int .i64 e.nn) ∧ w.cell? ⟨(ad.add (i * 12)).block, (ad.add (i * 12)).off + 6, none⟩ = some (.int .i64 e.ng) ∧ w.cell? ⟨(ad.add (i * 12)).block, (ad.add (i * 12)).off + 7, none⟩ = some (.int .i64 e.t) ∧ w.cell? ⟨(ad.add (i * 12)).block, (ad.add (i * 12)).off + 8, none⟩ = some (.int .i64 e.a) ∧ w.cell? ⟨(ad.add (i * 12)).block, (ad.add (i * 12)).off + 9, none⟩ = some (.int .i64 e.u) ∧ w.cell? ⟨(ad.add (i * 12)).block, (ad.add (i * 12)).off + 10, none⟩ = some (.bool e.y) ∧ w.cell? ⟨(ad.add (i * 12)).block, (ad.add (i * 12)).off + 11, none⟩ = some (.int .i64 e.er)
theorem EvIn.below {w w1 : World} {A : Option Addr} {i : Nat} {e : Ev} (h : EvIn w A i e) (hb : Below w.heap.size w w1) : EvIn w1 A i e := by
 obtain ⟨ad, h0, h1, h2, h3, h4, h5, h6, h7, h8, h9, h10, h11, h12⟩ := h
 exact ⟨ad, h0, (pw_cell_below hb h1), (pw_cell_below hb h2), (pw_cell_below hb h3), (pw_cell_below hb h4), (pw_cell_below hb h5), (pw_cell_below hb h6), (pw_cell_below hb h7), (pw_cell_below hb h8), (pw_cell_below hb h9), (pw_cell_below hb h10), (pw_cell_below hb h11), (pw_cell_below hb h12)⟩
end Go.Proofs.Ythniclbmpeklmaa.Ju
end
section
namespace Go.Proofs.Ythniclbmpeklmaa.Ju
open Go.RowKit Go.Maps Go.Proofs.YthniclbmpeklmaaW.PrintWords Go.Proofs.YthniclbmpeklmaaW.PrintLast Go.Proofs.YthniclbmpeklmaaW.PrintMore Go.Proofs.Ythniclbmpeklmaa.Mp Go.Proofs.Ythniclbmpeklmaa.Au
set_option linter.unusedVariables false
set_option linter.unusedSimpArgs false
def wfB' (e : Ev) : Bool := (Lit.int .i64 e.wk).wf && (Lit.int .i64 e.hn).wf && (Lit.int .i64 e.hg).wf && (Lit.int .i64 e.nn).wf && (Lit.int .i64 e.ng).wf
theorem wfJ_of {e : Ev} (h : wfB' e = true) : wfJ e := by
 simp only [wfB', Bool.and_eq_true] at h
 exact ⟨⟨h.1.1.1.2, h.1.1.2, h.1.2, h.2⟩, h.1.1.1.1⟩
end Go.Proofs.Ythniclbmpeklmaa.Ju
end
section
namespace Go.Proofs.Ythniclbmpeklmaa.Mo
open Go.RowKit Go.Maps Go.Proofs.YthniclbmpeklmaaW.PrintWords Go.Proofs.YthniclbmpeklmaaW.PrintLast Go.Proofs.YthniclbmpeklmaaW.PrintMore Go.Proofs.Ythniclbmpeklmaa.Mp Go.Proofs.Ythniclbmpeklmaa.Ju
open Go.Proofs.Ythniclbmpeklmaa.Au (Ha RowIs flat_get flat_len haV lawH types_ne evA Ev Fr)
set_option linter.unusedVariables false
set_option linter.unusedSimpArgs false
def NonNeg (m : Md) : Prop := ∀ h d, m.fat h = some (1, d) → 0 ≤ d
theorem right_t {e : Ev} (h : rightJ e = true) (hk : e.k = 3) : 0 ≤ e.t := by
 unfold rightJ Ev.evRight at h
 rw [hk] at h
 simp at h
 omega
theorem nn_end {m : Md} (h : NonNeg m) (x : Ha) (s : Int) (hs : s ≠ 1) : NonNeg (m.end_ x s) := fun y d q => by
 rw [end_fat] at q
 by_cases e : y = x
 ·rw [if_pos e] at q; exact absurd (congrArg Prod.fst (Option.some.inj q)) hs
 ·rw [if_neg e] at q; exact h y d q
theorem nn_arm {m : Md} (h : NonNeg m) (x : Ha) {t : Int} (ht : 0 ≤ t) : NonNeg (m.arm x t) := fun y d q => by
 rw [arm_fat] at q
 by_cases e : y = x
 ·rw [if_pos e] at q
  have := congrArg Prod.snd (Option.some.inj q)
  simp at this
  omega
 ·rw [if_neg e] at q; exact h y d q
theorem do_fail {m : Md} {e : Ev} (h : (doF m e).2 ≠ 0) : (doF m e).1 = m := by
 unfold doF pointF at h ⊢
 repeat' split
 all_goals first
  | rfl
  | (simp_all; done)
structure MOk (m : Md) : Prop where
 inv : MInv m
 nn : NonNeg m
 lst : LstOk m
theorem MOk0 : MOk md0 := ⟨MInv0, fun h d q => by simp [md0] at q, fun x => by rfl⟩
theorem MOk.step {m : Md} (h : MOk m) {e : Ev} (hw : wfJ e) : MOk (doF m e).1 := by
 by_cases hz : (doF m e).2 = 0
 ·obtain ⟨hr, hd⟩ := did hz
  refine ⟨h.inv.did hr hw.1.2.1 hd, ?_, lst_do h.lst hw⟩
  generalize (doF m e).1 = m' at hd
  cases hd with
  | tick hk ht => exact h.nn
  | fire hk ha hd hc => exact nn_end h.nn _ _ (by decide)
  | cancel hk ho hy ha => exact nn_end h.nn _ _ (by decide)
  | same hk hm he => exact h.nn
  | start hk ho he hs => exact nn_arm h.nn _ (right_t hr hk)
  | rearm hk ho he ha h1 h2 => exact nn_arm (nn_end h.nn _ _ (by decide)) _ (right_t hr hk)
 ·rw [do_fail hz]; exact h
theorem MdIs.lower {w : World} {B B' b n m1 m2 : Nat} {m : Md} (h : MdIs w B b n m m1 m2) (hB : B' ≤ B) : MdIs w B' b n m m1 m2 := ⟨h.blk, h.mf, h.ml, Nat.le_trans hB h.hb, Nat.le_trans hB h.h1, Nat.le_trans hB h.h2, h.m12⟩
def spS : Ev := ⟨3, 0, 1, 0, 0, 0, 1, 1, 0, 0, false, 0⟩
def spF : Ev := ⟨4, 0, 0, 0, 1, 0, 0, 1, 0, 0, false, 0⟩
def spT : Ev := ⟨1, 0, 0, 0, 0, 0, 0, 1, 0, 0, false, 0⟩
def sp1 : Md := (doF md0 spS).1
def sp2 : Md := (doF sp1 spF).1
def sp3 : Md := (doF sp2 spT).1
def sp4 : Md := (doF sp3 spF).1
theorem sp_is : (doF md0 spS).2 = 0 ∧ (doF sp1 spF).2 = 6 ∧ (doF sp2 spT).2 = 0 ∧ (doF sp3 spF).2 = 0 ∧ (doF sp4 spF).2 = 6 := by decide +kernel
structure Mw (w W : World) (b m1 m2 n : Nat) (m : Md) : Prop where
 md : MdIs W w.heap.size b n m m1 m2
 bel : Below w.heap.size w W
 ok : MOk m
theorem Mw.step {w W W1 : World} {b m1 m2 n : Nat} {m : Md} (h : Mw w W b m1 m2 n m) (hb : Below W.heap.size W W1) : Mw w W1 b m1 m2 n m := ⟨h.md.below hb, below_step h.bel hb, h.ok⟩
theorem Mw.alloc {w W : World} {b m1 m2 n : Nat} {m : Md} (h : Mw w W b m1 m2 n m) (o : Obj) : Mw w (W.alloc o) b m1 m2 n m := h.step (below_alloc (Below.refl _ _) o)
theorem Mw.doing {w W : World} {b m1 m2 n : Nat} {m : Md} (h : Mw w W b m1 m2 n m) (hn : n + 1 ≤ 1000000) {e : Ev} (hw : wfJ e) :
  Calls Try.prog 43 #[pA b, .agg (evA e)] W fun r w' => r = .returned (.int .i64 (doF m e).2) ∧ Mw w w' b m1 m2 (n + 3) (doF m e).1 ∧ Fr W w' (mdS b m1 m2) := by
 refine (do_any e hw.1 hn h.ok.lst h.md).mono ?_
 rintro r w' ⟨h1, h2, h3⟩
 refine ⟨h1, ⟨h2.up (by omega), h.bel.trans (h3.below h.bel.size ?_), h.ok.step hw⟩, h3⟩
 rintro g (q | q | q)
 ·rw [q]; exact h.md.hb
 ·rw [q]; exact h.md.h1
 ·rw [q]; exact h.md.h2
theorem fr_cells {W W1 : World} {B b n m1 m2 g : Nat} {m : Md} {cs : Array Value} {t : TypeId} (hf : Fr W W1 (mdS b m1 m2)) (h : MdIs W B b n m m1 m2) (hg : W.heap[g]? = some (.cells cs t (0, 0))) (ht : t ≠ 125) : W1.heap[g]? = some (.cells cs t (0, 0)) := by
 refine hf.blk hg ?_
 rintro (q | q | q)
 ·exact types_ne hg h.blk ht q
 ·obtain ⟨z, _, hz⟩ := h.mf; obtain ⟨_, _, hq⟩ := hz.block; exact Go.Proofs.Ythniclbmpeklmaa.Au.map_ne hg hq q
 ·obtain ⟨z, _, hz⟩ := h.ml; obtain ⟨_, _, hq⟩ := hz.block; exact Go.Proofs.Ythniclbmpeklmaa.Au.map_ne hg hq q
set_option maxHeartbeats 8000000 in
set_option maxRecDepth 100000 in
theorem speaks12 (w : World) : Calls Try.prog 39 #[] w fun r w' => r = .returned (.bool true) ∧ Below w.heap.size w w' := by
 have hu2 := Try.underlying34
 have hu3 := Try.underlying54
 have CN := Aside0.mk (model_new w)
 have HR := Aside0.mk sp_is
 have D1 : Aside0 (∀ W b m1 m2, Mw w W b m1 m2 0 md0 → Calls Try.prog 43 #[pA b, .agg #[.int .i64 3, .int .i64 0, .int .i64 1, .int .i64 0, .int .i64 0, .int .i64 0, .int .i64 1, .int .i64 1, .int .i64 0, .int .i64 0, .bool false, .int .i64 0]] W fun r w' => r = .returned (.int .i64 0) ∧ Mw w w' b m1 m2 3 sp1 ∧ Fr W w' (mdS b m1 m2)) := ⟨fun W b m1 m2 h => by have q := h.doing (e := spS) (by omega) (wfJ_of (by decide)); rw [HR.out.1] at q; exact q⟩
 have D2 : Aside0 (∀ W b m1 m2, Mw w W b m1 m2 3 sp1 → Calls Try.prog 43 #[pA b, .agg #[.int .i64 4, .int .i64 0, .int .i64 0, .int .i64 0, .int .i64 1, .int .i64 0, .int .i64 0, .int .i64 1, .int .i64 0, .int .i64 0, .bool false, .int .i64 0]] W fun r w' => r = .returned (.int .i64 6) ∧ Mw w w' b m1 m2 6 sp2 ∧ Fr W w' (mdS b m1 m2)) := ⟨fun W b m1 m2 h => by have q := h.doing (e := spF) (by omega) (wfJ_of (by decide)); rw [HR.out.2.1] at q; exact q⟩
 have D3 : Aside0 (∀ W b m1 m2, Mw w W b m1 m2 6 sp2 → Calls Try.prog 43 #[pA b, .agg #[.int .i64 1, .int .i64 0, .int .i64 0, .int .i64 0, .int .i64 0, .int .i64 0, .int .i64 0, .int .i64 1, .int .i64 0, .int .i64 0, .bool false, .int .i64 0]] W fun r w' => r = .returned (.int .i64 0) ∧ Mw w w' b m1 m2 9 sp3 ∧ Fr W w' (mdS b m1 m2)) := ⟨fun W b m1 m2 h => by have q := h.doing (e := spT) (by omega) (wfJ_of (by decide)); rw [HR.out.2.2.1] at q; exact q⟩
 have D4 : Aside0 (∀ W b m1 m2, Mw w W b m1 m2 9 sp3 → Calls Try.prog 43 #[pA b, .agg #[.int .i64 4, .int .i64 0, .int .i64 0, .int .i64 0, .int .i64 1, .int .i64 0, .int .i64 0, .int .i64 1, .int .i64 0, .int .i64 0, .bool false, .int .i64 0]] W fun r w' => r = .returned (.int .i64 0) ∧ Mw w w' b m1 m2 12 sp4 ∧ Fr W w' (mdS b m1 m2)) := ⟨fun W b m1 m2 h => by have q := h.doing (e := spF) (by omega) (wfJ_of (by decide)); rw [HR.out.2.2.2.1] at q; exact q⟩
 have D5 : Aside0 (∀ W b m1 m2, Mw w W b m1 m2 12 sp4 → Calls Try.prog 43 #[pA b, .agg #[.int .i64 4, .int .i64 0, .int .i64 0, .int .i64 0, .int .i64 1, .int .i64 0, .int .i64 0, .int .i64 1, .int .i64 0, .int .i64 0, .bool false, .int .i64 0]] W fun r w' => r = .returned (.int .i64 6) ∧ Below w.heap.size w w') := ⟨fun W b m1 m2 h => by have q := h.doing (e := spF) (by omega) (wfJ_of (by decide)); rw [HR.out.2.2.2.2] at q; exact q.mono fun _ _ h => ⟨h.1, h.2.1.bel⟩⟩
 go_enter Try.func39, Try.ntmps39
 go_upto_region 4 with (go_at_call 40; (with_reducible refine CN.out.mono ?_); rintro r w2 ⟨rfl, hmd, hb⟩; have H2 := Aside0.mk (show Mw w w2 (w.heap.size + 1 + 1) w.heap.size (w.heap.size + 1) 0 md0 from ⟨hmd, hb, MOk0⟩); clear hmd hb)
 have H3 := Aside0.mk (And.intro (H2.out.alloc (.cells #[.int .i64 0, .int .i64 1] 34)) (blk_new w2 (.cells #[.int .i64 0, .int .i64 1] 34)))
 have hl := blk_lt H3.out.2
 have hc := fun i => blk_cell H3.out.2 i
 go_upto_region 6 with (go_at_call 43; (with_reducible refine (D1.out _ _ _ _ H3.out.1).mono ?_); rintro r w3 ⟨rfl, hm, hf⟩; have H4 := Aside0.mk (And.intro hm (fr_cells hf H3.out.1.md H3.out.2 (by decide))); clear hm hf hl hc; have hl := blk_lt H4.out.2; have hc := fun i => blk_cell H4.out.2 i)
 have H5 := Aside0.mk (And.intro (H4.out.1.alloc (.cells #[.int .i64 4, .int .i64 0, .int .i64 0, .int .i64 0, .int .i64 1, .int .i64 0, .int .i64 0, .int .i64 1, .int .i64 0, .int .i64 0, .bool false, .int .i64 0] 54)) (blk_new w3 (.cells #[.int .i64 4, .int .i64 0, .int .i64 0, .int .i64 0, .int .i64 1, .int .i64 0, .int .i64 0, .int .i64 1, .int .i64 0, .int .i64 0, .bool false, .int .i64 0] 54)))
 go_upto_region 7 with (fail)
 clear hl hc
 have hl := blk_lt H5.out.2
 have hc := fun i => blk_cell H5.out.2 i
 go_upto_region 8 with (go_at_call 43; (with_reducible refine (D2.out _ _ _ _ H5.out.1).mono ?_); rintro r w4 ⟨rfl, hm, hf⟩; have H6 := Aside0.mk (And.intro hm (fr_cells hf H5.out.1.md H5.out.2 (by decide))); clear hm hf hl hc)
 go_upto_region 9 with (go_at_call 43; (with_reducible refine (D3.out _ _ _ _ H6.out.1).mono ?_); rintro r w5 ⟨rfl, hm, hf⟩; have H7 := Aside0.mk (And.intro hm (fr_cells hf H6.out.1.md H6.out.2 (by decide))); clear hm hf)
 have hl := blk_lt H7.out.2
 have hc := fun i => blk_cell H7.out.2 i
 go_wp2_with (first
  | (go_at_call 43; (with_reducible refine (D4.out _ _ _ _ H7.out.1).mono ?_); rintro r w6 ⟨rfl, hm, hf⟩; have H8 := Aside0.mk (And.intro hm (fr_cells hf H7.out.1.md H7.out.2 (by decide))); clear hm hf hl hc H7; have hl := blk_lt H8.out.2; have hc := fun i => blk_cell H8.out.2 i)
  | (go_at_call 43; (with_reducible refine (D5.out _ _ _ _ H8.out.1).mono ?_); rintro r w7 ⟨rfl, hb⟩; have H9 := Aside0.mk hb; clear hb))
 go_ret
 exact ⟨rfl, H9.out⟩
end Go.Proofs.Ythniclbmpeklmaa.Mo
end
section
namespace Go.Proofs.Ythniclbmpeklmaa.KJf
open Go.RowKit Go.Proofs.YthniclbmpeklmaaW.PrintWords Go.Proofs.YthniclbmpeklmaaW.PrintLast Go.Proofs.YthniclbmpeklmaaW.PrintMore
attribute [local go_sem] max2_int min2_int max_two min_two max_three min_three max_four min_four   -- for this text's walks alone
set_option linter.unusedVariables false
set_option linter.unusedSimpArgs false
def errW : Option Int → Value
 | none => .nilIface
 | some c => .iface 0 (.int .i64 c)
theorem errW_none : errW none = .nilIface := rfl
theorem errW_some (c : Int) : errW (some c) = .iface 0 (.int .i64 c) := rfl
theorem info127 : (Try.prog.info? 127).map (fun i => (i.zero, i.size, i.bytes)) = some (some (.agg #[(.int .i64 0), (.int .i64 0), (.int .i64 0), (.int .i64 0)]), 4, 32) := by kernel_rfl
structure S36 where
 f0 : Int
 f1 : Int
def z36 : S36 := ⟨(0 : Int), (0 : Int)⟩
def k36 : Kd S36 := Kd.iso (Kd.pair (Kd.int .i64) (Kd.int .i64)) (fun x : S36 => (x.f0, x.f1))
theorem k36_open {w : World} {x : S36} {cs : List Value} (h : k36.K w x cs) : cs = [.int .i64 x.f0, .int .i64 x.f1] := by
 obtain ⟨_, _, rfl, rfl, rfl⟩ := h
 exact rfl
theorem k36_openM {w : World} {base : Nat} {ok : Nat → Prop} {x : S36} {cs : List Value} (h : k36.M w base ok x cs) : cs = [.int .i64 x.f0, .int .i64 x.f1] := by
 obtain ⟨_, _, rfl, rfl, rfl⟩ := h
 exact rfl
theorem k36_mk (w : World) (x : S36)  : k36.K w x [.int .i64 x.f0, .int .i64 x.f1] := ⟨[.int .i64 x.f0], [.int .i64 x.f1], rfl, rfl, rfl⟩
theorem k36_mkM (w : World) (base : Nat) (ok : Nat → Prop) (x : S36)  : k36.M w base ok x [.int .i64 x.f0, .int .i64 x.f1] := ⟨[.int .i64 x.f0], [.int .i64 x.f1], rfl, rfl, rfl⟩
structure S50 where
 f0 : Int
 f1 : Int
 f2 : Int
 f3 : S36
 f4 : S36
 f5 : Int
 f6 : Int
 f7 : Int
 f8 : Bool
 f9 : Int
def z50 : S50 := ⟨(0 : Int), (0 : Int), (0 : Int), z36, z36, (0 : Int), (0 : Int), (0 : Int), false, (0 : Int)⟩
def k50 : Kd S50 := Kd.iso (Kd.pair (Kd.int .i64) (Kd.pair (Kd.int .i64) (Kd.pair (Kd.int .i64) (Kd.pair k36 (Kd.pair k36 (Kd.pair (Kd.int .i64) (Kd.pair (Kd.int .i64) (Kd.pair (Kd.int .i64) (Kd.pair Kd.bool (Kd.int .i64)))))))))) (fun x : S50 => (x.f0, x.f1, x.f2, x.f3, x.f4, x.f5, x.f6, x.f7, x.f8, x.f9))
theorem k50_open {w : World} {x : S50} {cs : List Value} (h : k50.K w x cs) : cs = [.int .i64 x.f0, .int .i64 x.f1, .int .i64 x.f2, .int .i64 x.f3.f0, .int .i64 x.f3.f1, .int .i64 x.f4.f0, .int .i64 x.f4.f1, .int .i64 x.f5, .int .i64 x.f6, .int .i64 x.f7, .bool x.f8, .int .i64 x.f9] := by
 obtain ⟨_, _, rfl, rfl, ⟨_, _, rfl, rfl, ⟨_, _, rfl, rfl, ⟨_, _, rfl, s3, ⟨_, _, rfl, s5, ⟨_, _, rfl, rfl, ⟨_, _, rfl, rfl, ⟨_, _, rfl, rfl, ⟨_, _, rfl, rfl, rfl⟩⟩⟩⟩⟩⟩⟩⟩⟩ := h
 obtain rfl := k36_open s3
 obtain rfl := k36_open s5
 exact rfl
theorem k50_mk (w : World) (x : S50)  : k50.K w x [.int .i64 x.f0, .int .i64 x.f1, .int .i64 x.f2, .int .i64 x.f3.f0, .int .i64 x.f3.f1, .int .i64 x.f4.f0, .int .i64 x.f4.f1, .int .i64 x.f5, .int .i64 x.f6, .int .i64 x.f7, .bool x.f8, .int .i64 x.f9] := ⟨[.int .i64 x.f0], [.int .i64 x.f1, .int .i64 x.f2, .int .i64 x.f3.f0, .int .i64 x.f3.f1, .int .i64 x.f4.f0, .int .i64 x.f4.f1, .int .i64 x.f5, .int .i64 x.f6, .int .i64 x.f7, .bool x.f8, .int .i64 x.f9], rfl, rfl, ⟨[.int .i64 x.f1], [.int .i64 x.f2, .int .i64 x.f3.f0, .int .i64 x.f3.f1, .int .i64 x.f4.f0, .int .i64 x.f4.f1, .int .i64 x.f5, .int .i64 x.f6, .int .i64 x.f7, .bool x.f8, .int .i64 x.f9], rfl, rfl, ⟨[.int .i64 x.f2], [.int .i64 x.f3.f0, .int .i64 x.f3.f1, .int .i64 x.f4.f0, .int .i64 x.f4.f1, .int .i64 x.f5, .int .i64 x.f6, .int .i64 x.f7, .bool x.f8, .int .i64 x.f9], rfl, rfl, ⟨[.int .i64 x.f3.f0, .int .i64 x.f3.f1], [.int .i64 x.f4.f0, .int .i64 x.f4.f1, .int .i64 x.f5, .int .i64 x.f6, .int .i64 x.f7, .bool x.f8, .int .i64 x.f9], rfl, (k36_mk w x.f3 ), ⟨[.int .i64 x.f4.f0, .int .i64 x.f4.f1], [.int .i64 x.f5, .int .i64 x.f6, .int .i64 x.f7, .bool x.f8, .int .i64 x.f9], rfl, (k36_mk w x.f4 ), ⟨[.int .i64 x.f5], [.int .i64 x.f6, .int .i64 x.f7, .bool x.f8, .int .i64 x.f9], rfl, rfl, ⟨[.int .i64 x.f6], [.int .i64 x.f7, .bool x.f8, .int .i64 x.f9], rfl, rfl, ⟨[.int .i64 x.f7], [.bool x.f8, .int .i64 x.f9], rfl, rfl, ⟨[.bool x.f8], [.int .i64 x.f9], rfl, rfl, rfl⟩⟩⟩⟩⟩⟩⟩⟩⟩
def rd_T50 (xs : List S50) (i : Int) : S50 := xs.getD i.toNat z50
theorem at_T50 {w : World} {A : Option Addr} {n : Nat} {xs : List S50} (h : Kd.C k50 w A n xs) (i : Int) (h0 : 0 ≤ i) (h1 : i < n) : ∃ ad , A = some ad ∧ w.cell? (ad.add (i.toNat * 12)) = some (.int .i64 (rd_T50 xs i).f0) ∧ w.cell? ⟨(ad.add (i.toNat * 12)).block, (ad.add (i.toNat * 12)).off + 1, none⟩ = some (.int .i64 (rd_T50 xs i).f1) ∧ w.cell? ⟨(ad.add (i.toNat * 12)).block, (ad.add (i.toNat * 12)).off + 2, none⟩ = some (.int .i64 (rd_T50 xs i).f2) ∧ w.cell? ⟨(ad.add (i.toNat * 12)).block, (ad.add (i.toNat * 12)).off + 3, none⟩ = some (.int .i64 (rd_T50 xs i).f3.f0) ∧ w.cell? ⟨(ad.add (i.toNat * 12)).block, (ad.add (i.toNat * 12)).off + 4, none⟩ = some (.int .i64 (rd_T50 xs i).f3.f1) ∧ w.cell? ⟨(ad.add (i.toNat * 12)).block, (ad.add (i.toNat * 12)).off + 5, none⟩ = some (.int .i64 (rd_T50 xs i).f4.f0) ∧ w.cell? ⟨(ad.add (i.toNat * 12)).block, (ad.add (i.toNat * 12)).off + 6, none⟩ = some (.int .i64 (rd_T50 xs i).f4.f1) ∧ w.cell? ⟨(ad.add (i.toNat * 12)).block, (ad.add (i.toNat * 12)).off + 7, none⟩ = some (.int .i64 (rd_T50 xs i).f5) ∧ w.cell? ⟨(ad.add (i.toNat * 12)).block, (ad.add (i.toNat * 12)).off + 8, none⟩ = some (.int .i64 (rd_T50 xs i).f6) ∧ w.cell? ⟨(ad.add (i.toNat * 12)).block, (ad.add (i.toNat * 12)).off + 9, none⟩ = some (.int .i64 (rd_T50 xs i).f7) ∧ w.cell? ⟨(ad.add (i.toNat * 12)).block, (ad.add (i.toNat * 12)).off + 10, none⟩ = some (.bool (rd_T50 xs i).f8) ∧ w.cell? ⟨(ad.add (i.toNat * 12)).block, (ad.add (i.toNat * 12)).off + 11, none⟩ = some (.int .i64 (rd_T50 xs i).f9) := by
 obtain ⟨ad, c, e, _, hK, hc0⟩ := Kd.C_get h z50 i h0 h1
 have hc : ∀ j u, c[j]? = some u → w.cell? (ad.add (i.toNat * 12 + j)) = some u := hc0
 obtain rfl := k50_open hK
 exact ⟨ad, e, hc 0 _ rfl, by rw [← add_field _ _ 1 (by omega)]; exact hc 1 _ rfl, by rw [← add_field _ _ 2 (by omega)]; exact hc 2 _ rfl, by rw [← add_field _ _ 3 (by omega)]; exact hc 3 _ rfl, by rw [← add_field _ _ 4 (by omega)]; exact hc 4 _ rfl, by rw [← add_field _ _ 5 (by omega)]; exact hc 5 _ rfl, by rw [← add_field _ _ 6 (by omega)]; exact hc 6 _ rfl, by rw [← add_field _ _ 7 (by omega)]; exact hc 7 _ rfl, by rw [← add_field _ _ 8 (by omega)]; exact hc 8 _ rfl, by rw [← add_field _ _ 9 (by omega)]; exact hc 9 _ rfl, by rw [← add_field _ _ 10 (by omega)]; exact hc 10 _ rfl, by rw [← add_field _ _ 11 (by omega)]; exact hc 11 _ rfl⟩
structure S127 where
 f0 : S36
 f1 : Int
 f2 : Int
def z127 : S127 := ⟨z36, (0 : Int), (0 : Int)⟩
def k127 : Kd S127 := Kd.iso (Kd.pair k36 (Kd.pair (Kd.int .i64) (Kd.int .i64))) (fun x : S127 => (x.f0, x.f1, x.f2))
theorem k127_open {w : World} {x : S127} {cs : List Value} (h : k127.K w x cs) : cs = [.int .i64 x.f0.f0, .int .i64 x.f0.f1, .int .i64 x.f1, .int .i64 x.f2] := by
 obtain ⟨_, _, rfl, s0, ⟨_, _, rfl, rfl, rfl⟩⟩ := h
 obtain rfl := k36_open s0
 exact rfl
theorem k127_openM {w : World} {base : Nat} {ok : Nat → Prop} {x : S127} {cs : List Value} (h : k127.M w base ok x cs) : cs = [.int .i64 x.f0.f0, .int .i64 x.f0.f1, .int .i64 x.f1, .int .i64 x.f2] := by
 obtain ⟨_, _, rfl, s0, ⟨_, _, rfl, rfl, rfl⟩⟩ := h
 obtain rfl := k36_openM s0
 exact rfl
theorem k127_mkM (w : World) (base : Nat) (ok : Nat → Prop) (x : S127)  : k127.M w base ok x [.int .i64 x.f0.f0, .int .i64 x.f0.f1, .int .i64 x.f1, .int .i64 x.f2] := ⟨[.int .i64 x.f0.f0, .int .i64 x.f0.f1], [.int .i64 x.f1, .int .i64 x.f2], rfl, (k36_mkM w base ok x.f0 ), ⟨[.int .i64 x.f1], [.int .i64 x.f2], rfl, rfl, rfl⟩⟩
def rd_T127 (xs : List S127) (i : Int) : S127 := xs.getD i.toNat z127
theorem at_T127 {w : World} {A : Option Addr} {n : Nat} {xs : List S127} (h : Kd.C k127 w A n xs) (i : Int) (h0 : 0 ≤ i) (h1 : i < n) : ∃ ad , A = some ad ∧ w.cell? (ad.add (i.toNat * 4)) = some (.int .i64 (rd_T127 xs i).f0.f0) ∧ w.cell? ⟨(ad.add (i.toNat * 4)).block, (ad.add (i.toNat * 4)).off + 1, none⟩ = some (.int .i64 (rd_T127 xs i).f0.f1) ∧ w.cell? ⟨(ad.add (i.toNat * 4)).block, (ad.add (i.toNat * 4)).off + 2, none⟩ = some (.int .i64 (rd_T127 xs i).f1) ∧ w.cell? ⟨(ad.add (i.toNat * 4)).block, (ad.add (i.toNat * 4)).off + 3, none⟩ = some (.int .i64 (rd_T127 xs i).f2) := by
 obtain ⟨ad, c, e, _, hK, hc0⟩ := Kd.C_get h z127 i h0 h1
 have hc : ∀ j u, c[j]? = some u → w.cell? (ad.add (i.toNat * 4 + j)) = some u := hc0
 obtain rfl := k127_open hK
 exact ⟨ad, e, hc 0 _ rfl, by rw [← add_field _ _ 1 (by omega)]; exact hc 1 _ rfl, by rw [← add_field _ _ 2 (by omega)]; exact hc 2 _ rfl, by rw [← add_field _ _ 3 (by omega)]; exact hc 3 _ rfl⟩
structure S66 where
 f0 : S50
 f1 : Int
 f2 : Bool
 f3 : S50
end Go.Proofs.Ythniclbmpeklmaa.KJf
end
section
namespace Go.Proofs.Ythniclbmpeklmaa.KJf
open Go.RowKit Go.Proofs.YthniclbmpeklmaaW.PrintWords Go.Proofs.YthniclbmpeklmaaW.PrintLast Go.Proofs.YthniclbmpeklmaaW.PrintMore
attribute [local go_sem] max2_int min2_int max_two min_two max_three min_three max_four min_four   -- for this text's walks alone
set_option linter.unusedVariables false
set_option linter.unusedSimpArgs false
theorem eqA36 (d : Nat) (w : World) (x0 y0 : Int) (x1 y1 : Int) :
  (Op.equalIn (d + 2) 36 (.agg #[.int .i64 x0, .int .i64 x1]) (.agg #[.int .i64 y0, .int .i64 y1])).run Try.prog w = .ok (x0 == y0 && (x1 == y1)) w := by
 refine eqA_of Try.underlying36 (by kernel_rfl) ?_
 refine eqf_cons (by rfl) (by go_simp; rfl) (by go_simp; rfl) (by go_simp) ?_
 exact eqf_last (by rfl) (by go_simp; rfl) (by go_simp; rfl) (by go_simp)
end Go.Proofs.Ythniclbmpeklmaa.KJf
end
section
set_option maxHeartbeats 8000000
set_option maxRecDepth 100000
namespace Go.Proofs.Ythniclbmpeklmaa.KJf
open Go.RowKit Go.Proofs.YthniclbmpeklmaaW.PrintWords Go.Proofs.YthniclbmpeklmaaW.PrintLast Go.Proofs.YthniclbmpeklmaaW.PrintMore
attribute [local go_sem] max2_int min2_int max_two min_two max_three min_three max_four min_four   -- for this text's walks alone
set_option linter.unusedVariables false
set_option linter.unusedSimpArgs false
attribute [local go_sem high] eqA36
def knelllaw11_Of.f (a0_0 : Int) (a0_1 : Int) (a0_2 : Int) (a0_3 : Int) (a0_4 : Int) (a0_5 : Int) (a0_6 : Int) (a0_7 : Int) (a0_8 : Int) (a0_9 : Int) (a0_10 : Bool) (a0_11 : Int) : Option (Int × Int × Int × Int × Int × Int × Int × Int × Int × Int × Bool × Int) := some (a0_0, a0_1, a0_2, a0_3, a0_4, a0_5, a0_6, a0_7, a0_8, a0_9, a0_10, a0_11)
theorem knelllaw11_Of.calls (a0_0 : Int) (a0_1 : Int) (a0_2 : Int) (a0_3 : Int) (a0_4 : Int) (a0_5 : Int) (a0_6 : Int) (a0_7 : Int) (a0_8 : Int) (a0_9 : Int) (a0_10 : Bool) (a0_11 : Int) (r1 : Int) (r2 : Int) (r3 : Int) (r4 : Int) (r5 : Int) (r6 : Int) (r7 : Int) (r8 : Int) (r9 : Int) (r10 : Int) (r11 : Bool) (r12 : Int) (w : World) (h : knelllaw11_Of.f a0_0 a0_1 a0_2 a0_3 a0_4 a0_5 a0_6 a0_7 a0_8 a0_9 a0_10 a0_11 = some (r1, r2, r3, r4, r5, r6, r7, r8, r9, r10, r11, r12)) :
  Calls Try.prog 30 #[.agg #[.int .i64 a0_0, .int .i64 a0_1, .int .i64 a0_2, .int .i64 a0_3, .int .i64 a0_4, .int .i64 a0_5, .int .i64 a0_6, .int .i64 a0_7, .int .i64 a0_8, .int .i64 a0_9, .bool a0_10, .int .i64 a0_11]] w fun e w' => e = .returned (.agg #[.int .i64 r1, .int .i64 r2, .int .i64 r3, .int .i64 r4, .int .i64 r5, .int .i64 r6, .int .i64 r7, .int .i64 r8, .int .i64 r9, .int .i64 r10, .bool r11, .int .i64 r12]) ∧ Below w.heap.size w w' := by
 have hu50 := Try.underlying50
 have hu54 := Try.underlying54
 have hu34 := Try.underlying34
 have HB := Aside0.mk (Below.refl w.heap.size w)
 have H : (some (a0_0, a0_1, a0_2, a0_3, a0_4, a0_5, a0_6, a0_7, a0_8, a0_9, a0_10, a0_11)) = some (r1, r2, r3, r4, r5, r6, r7, r8, r9, r10, r11, r12) := h
 clear h
 simp only [Option.some.injEq, Prod.mk.injEq] at H
 obtain ⟨rfl, rfl, rfl, rfl, rfl, rfl, rfl, rfl, rfl, rfl, rfl, rfl⟩ := H
 go_enter Try.func30, Try.ntmps30
 go_wp2_with (first | ((with_reducible refine gate_dst (N := 1) rfl ?_); refine box_event ?hg (N := 1) ?hd (cs := #[.int .i64 a0_0, .int .i64 a0_1, .int .i64 a0_2, .int .i64 a0_3, .int .i64 a0_4, .int .i64 a0_5, .int .i64 a0_6, .int .i64 a0_7, .int .i64 a0_8, .int .i64 a0_9, .bool a0_10, .int .i64 a0_11]) (t := 50) ?hr ?_; (case hd => rfl); (case hg => rfl); (case hr => first | (go_simp; done) | (go_simp; rfl)); intro gb101 hg w2 hbox hb; have n0_ := Aside0.mk (below_step (by repeat (first | (with_reducible first | exact HB.out | apply below_alloc | apply pw_below_drewN | apply below_drew1) | exact HB.out)) hb); have n1_ := Aside0.mk (hbox); have n2_ := Aside0.mk ((by rw [hg]; exact (below_size (by repeat (first | (with_reducible first | exact HB.out | apply below_alloc | apply pw_below_drewN | apply below_drew1) | exact HB.out))) : w.heap.size ≤ gb101)); have n3_ := Aside0.mk ((by rw [hg]; exact (below_size (by repeat (first | (with_reducible first | exact HB.out | apply below_alloc | apply pw_below_drewN | apply below_drew1) | exact HB.out))) : w.heap.size ≤ gb101)); clear HB; have HB := n0_; have BK101 := n1_; have GW101 := n2_; have GE101 := n3_; clear n0_ n1_ n2_ n3_; clear hb hbox hg) | ((with_reducible refine gate_dst (N := 2) rfl ?_); refine box_event ?hg (N := 2) ?hd (cs := #[.int .i64 0, .int .i64 0, .int .i64 0, .int .i64 0, .int .i64 0, .int .i64 0, .int .i64 0, .int .i64 0, .int .i64 0, .int .i64 0, .bool false, .int .i64 0]) (t := 54) ?hr ?_; (case hd => rfl); (case hg => rfl); (case hr => first | (go_simp; done) | (go_simp; rfl)); intro gb102 hg w3 hbox hb; have n0_ := Aside0.mk (blk_below (g := gb101) (o := .cells #[.int .i64 a0_0, .int .i64 a0_1, .int .i64 a0_2, .int .i64 a0_3, .int .i64 a0_4, .int .i64 a0_5, .int .i64 a0_6, .int .i64 a0_7, .int .i64 a0_8, .int .i64 a0_9, .bool a0_10, .int .i64 a0_11] 50 (0, 0)) (by (with_reducible repeat (first | refine blk_drewN ?_ _ | refine blk_drew ?_ | refine blk_alloc ?_ _)); exact BK101.out) hb); have n1_ := Aside0.mk (below_step (by repeat (first | (with_reducible first | exact HB.out | apply below_alloc | apply pw_below_drewN | apply below_drew1 | refine below_set ?_ GE101.out) | exact HB.out)) hb); have n2_ := Aside0.mk (hbox); have n3_ := Aside0.mk ((by rw [hg]; exact (below_size (by repeat (first | (with_reducible first | exact HB.out | apply below_alloc | apply pw_below_drewN | apply below_drew1 | refine below_set ?_ GE101.out) | exact HB.out))) : w.heap.size ≤ gb102)); have n4_ := Aside0.mk ((by rw [hg]; exact (below_size (by repeat (first | (with_reducible first | exact HB.out | apply below_alloc | apply pw_below_drewN | apply below_drew1 | refine below_set ?_ GE101.out) | exact HB.out))) : w.heap.size ≤ gb102)); have n5_ := Aside0.mk ((by rw [hg]; exact Nat.ne_of_lt (blk_lt (g := gb101) (o := .cells #[.int .i64 a0_0, .int .i64 a0_1, .int .i64 a0_2, .int .i64 a0_3, .int .i64 a0_4, .int .i64 a0_5, .int .i64 a0_6, .int .i64 a0_7, .int .i64 a0_8, .int .i64 a0_9, .bool a0_10, .int .i64 a0_11] 50 (0, 0)) (by (with_reducible repeat (first | refine blk_drewN ?_ _ | refine blk_drew ?_ | refine blk_alloc ?_ _)); exact BK101.out)) : gb101 ≠ gb102)); have n6_ := Aside0.mk ((by rw [hg]; exact Nat.ne_of_gt (blk_lt (g := gb101) (o := .cells #[.int .i64 a0_0, .int .i64 a0_1, .int .i64 a0_2, .int .i64 a0_3, .int .i64 a0_4, .int .i64 a0_5, .int .i64 a0_6, .int .i64 a0_7, .int .i64 a0_8, .int .i64 a0_9, .bool a0_10, .int .i64 a0_11] 50 (0, 0)) (by (with_reducible repeat (first | refine blk_drewN ?_ _ | refine blk_drew ?_ | refine blk_alloc ?_ _)); exact BK101.out)) : gb102 ≠ gb101)); clear BK101; clear HB; have BK101 := n0_; have HB := n1_; have BK102 := n2_; have GW102 := n3_; have GE102 := n4_; have NB101_102 := n5_; have NB102_101 := n6_; clear n0_ n1_ n2_ n3_ n4_ n5_ n6_; clear hb hbox hg; have hnb4 := NB101_102.out; have hnc4 := NB102_101.out; have hcz5_0 : w3.cell? ⟨gb101, 0, none⟩ = some (.int .i64 a0_0) := (blk_cell BK101.out 0).trans rfl; have hcz5_1 : w3.cell? ⟨gb101, 1, none⟩ = some (.int .i64 a0_1) := (blk_cell BK101.out 1).trans rfl; have hcz5_2 : w3.cell? ⟨gb101, 2, none⟩ = some (.int .i64 a0_2) := (blk_cell BK101.out 2).trans rfl; have hcz5_3 : w3.cell? ⟨gb101, 3, none⟩ = some (.int .i64 a0_3) := (blk_cell BK101.out 3).trans rfl; have hcz5_4 : w3.cell? ⟨gb101, 4, none⟩ = some (.int .i64 a0_4) := (blk_cell BK101.out 4).trans rfl; have hcz5_5 : w3.cell? ⟨gb101, 5, none⟩ = some (.int .i64 a0_5) := (blk_cell BK101.out 5).trans rfl; have hcz5_6 : w3.cell? ⟨gb101, 6, none⟩ = some (.int .i64 a0_6) := (blk_cell BK101.out 6).trans rfl; have hcz5_7 : w3.cell? ⟨gb101, 7, none⟩ = some (.int .i64 a0_7) := (blk_cell BK101.out 7).trans rfl; have hcz5_8 : w3.cell? ⟨gb101, 8, none⟩ = some (.int .i64 a0_8) := (blk_cell BK101.out 8).trans rfl; have hcz5_9 : w3.cell? ⟨gb101, 9, none⟩ = some (.int .i64 a0_9) := (blk_cell BK101.out 9).trans rfl; have hcz5_10 : w3.cell? ⟨gb101, 10, none⟩ = some (.bool a0_10) := (blk_cell BK101.out 10).trans rfl; have hcz5_11 : w3.cell? ⟨gb101, 11, none⟩ = some (.int .i64 a0_11) := (blk_cell BK101.out 11).trans rfl; have hfz5_0 := blk_frozen BK101.out 0; have hfz5_1 := blk_frozen BK101.out 1; have hfz5_2 := blk_frozen BK101.out 2; have hfz5_3 := blk_frozen BK101.out 3; have hfz5_4 := blk_frozen BK101.out 4; have hfz5_5 := blk_frozen BK101.out 5; have hfz5_6 := blk_frozen BK101.out 6; have hfz5_7 := blk_frozen BK101.out 7; have hfz5_8 := blk_frozen BK101.out 8; have hfz5_9 := blk_frozen BK101.out 9; have hfz5_10 := blk_frozen BK101.out 10; have hfz5_11 := blk_frozen BK101.out 11; have hcz6_0 : w3.cell? ⟨gb102, 0, none⟩ = some (.int .i64 0) := (blk_cell BK102.out 0).trans rfl; have hcz6_1 : w3.cell? ⟨gb102, 1, none⟩ = some (.int .i64 0) := (blk_cell BK102.out 1).trans rfl; have hcz6_2 : w3.cell? ⟨gb102, 2, none⟩ = some (.int .i64 0) := (blk_cell BK102.out 2).trans rfl; have hcz6_3 : w3.cell? ⟨gb102, 3, none⟩ = some (.int .i64 0) := (blk_cell BK102.out 3).trans rfl; have hcz6_4 : w3.cell? ⟨gb102, 4, none⟩ = some (.int .i64 0) := (blk_cell BK102.out 4).trans rfl; have hcz6_5 : w3.cell? ⟨gb102, 5, none⟩ = some (.int .i64 0) := (blk_cell BK102.out 5).trans rfl; have hcz6_6 : w3.cell? ⟨gb102, 6, none⟩ = some (.int .i64 0) := (blk_cell BK102.out 6).trans rfl; have hcz6_7 : w3.cell? ⟨gb102, 7, none⟩ = some (.int .i64 0) := (blk_cell BK102.out 7).trans rfl; have hcz6_8 : w3.cell? ⟨gb102, 8, none⟩ = some (.int .i64 0) := (blk_cell BK102.out 8).trans rfl; have hcz6_9 : w3.cell? ⟨gb102, 9, none⟩ = some (.int .i64 0) := (blk_cell BK102.out 9).trans rfl; have hcz6_10 : w3.cell? ⟨gb102, 10, none⟩ = some (.bool false) := (blk_cell BK102.out 10).trans rfl; have hcz6_11 : w3.cell? ⟨gb102, 11, none⟩ = some (.int .i64 0) := (blk_cell BK102.out 11).trans rfl; have hfz6_0 := blk_frozen BK102.out 0; have hfz6_1 := blk_frozen BK102.out 1; have hfz6_2 := blk_frozen BK102.out 2; have hfz6_3 := blk_frozen BK102.out 3; have hfz6_4 := blk_frozen BK102.out 4; have hfz6_5 := blk_frozen BK102.out 5; have hfz6_6 := blk_frozen BK102.out 6; have hfz6_7 := blk_frozen BK102.out 7; have hfz6_8 := blk_frozen BK102.out 8; have hfz6_9 := blk_frozen BK102.out 9; have hfz6_10 := blk_frozen BK102.out 10; have hfz6_11 := blk_frozen BK102.out 11))
 refine bodyPost_ret (results_cell_row rfl _ _ gb102 54 #[.int .i64 a0_0, .int .i64 a0_1, .int .i64 a0_2, .int .i64 a0_3, .int .i64 a0_4, .int .i64 a0_5, .int .i64 a0_6, .int .i64 a0_7, .int .i64 a0_8, .int .i64 a0_9, .bool a0_10, .int .i64 a0_11] (0, 0) _ rfl (by (with_reducible repeat (first | refine blk_drewN ?_ _ | refine blk_drew ?_ | refine blk_alloc ?_ _)); refine blk_put (cs := #[.int .i64 a0_0, .int .i64 a0_1, .int .i64 a0_2, .int .i64 a0_3, .int .i64 a0_4, .int .i64 a0_5, .int .i64 a0_6, .int .i64 a0_7, .int .i64 a0_8, .int .i64 a0_9, .bool a0_10, .int .i64 0]) ?_ 11 _ rfl; (with_reducible repeat (first | refine blk_drewN ?_ _ | refine blk_drew ?_ | refine blk_alloc ?_ _)); refine blk_put (cs := #[.int .i64 a0_0, .int .i64 a0_1, .int .i64 a0_2, .int .i64 a0_3, .int .i64 a0_4, .int .i64 a0_5, .int .i64 a0_6, .int .i64 a0_7, .int .i64 a0_8, .int .i64 a0_9, .bool false, .int .i64 0]) ?_ 10 _ rfl; (with_reducible repeat (first | refine blk_drewN ?_ _ | refine blk_drew ?_ | refine blk_alloc ?_ _)); refine blk_put (cs := #[.int .i64 a0_0, .int .i64 a0_1, .int .i64 a0_2, .int .i64 a0_3, .int .i64 a0_4, .int .i64 a0_5, .int .i64 a0_6, .int .i64 a0_7, .int .i64 a0_8, .int .i64 0, .bool false, .int .i64 0]) ?_ 9 _ rfl; (with_reducible repeat (first | refine blk_drewN ?_ _ | refine blk_drew ?_ | refine blk_alloc ?_ _)); refine blk_put (cs := #[.int .i64 a0_0, .int .i64 a0_1, .int .i64 a0_2, .int .i64 a0_3, .int .i64 a0_4, .int .i64 a0_5, .int .i64 a0_6, .int .i64 a0_7, .int .i64 0, .int .i64 0, .bool false, .int .i64 0]) ?_ 8 _ rfl; (with_reducible repeat (first | refine blk_drewN ?_ _ | refine blk_drew ?_ | refine blk_alloc ?_ _)); refine blk_put (cs := #[.int .i64 a0_0, .int .i64 a0_1, .int .i64 a0_2, .int .i64 a0_3, .int .i64 a0_4, .int .i64 a0_5, .int .i64 a0_6, .int .i64 0, .int .i64 0, .int .i64 0, .bool false, .int .i64 0]) ?_ 7 _ rfl; (with_reducible repeat (first | refine blk_drewN ?_ _ | refine blk_drew ?_ | refine blk_alloc ?_ _)); refine blk_put (cs := #[.int .i64 a0_0, .int .i64 a0_1, .int .i64 a0_2, .int .i64 a0_3, .int .i64 a0_4, .int .i64 a0_5, .int .i64 0, .int .i64 0, .int .i64 0, .int .i64 0, .bool false, .int .i64 0]) ?_ 6 _ rfl; (with_reducible repeat (first | refine blk_drewN ?_ _ | refine blk_drew ?_ | refine blk_alloc ?_ _)); refine blk_put (cs := #[.int .i64 a0_0, .int .i64 a0_1, .int .i64 a0_2, .int .i64 a0_3, .int .i64 a0_4, .int .i64 0, .int .i64 0, .int .i64 0, .int .i64 0, .int .i64 0, .bool false, .int .i64 0]) ?_ 5 _ rfl; (with_reducible repeat (first | refine blk_drewN ?_ _ | refine blk_drew ?_ | refine blk_alloc ?_ _)); refine blk_put (cs := #[.int .i64 a0_0, .int .i64 a0_1, .int .i64 a0_2, .int .i64 a0_3, .int .i64 0, .int .i64 0, .int .i64 0, .int .i64 0, .int .i64 0, .int .i64 0, .bool false, .int .i64 0]) ?_ 4 _ rfl; (with_reducible repeat (first | refine blk_drewN ?_ _ | refine blk_drew ?_ | refine blk_alloc ?_ _)); refine blk_put (cs := #[.int .i64 a0_0, .int .i64 a0_1, .int .i64 a0_2, .int .i64 0, .int .i64 0, .int .i64 0, .int .i64 0, .int .i64 0, .int .i64 0, .int .i64 0, .bool false, .int .i64 0]) ?_ 3 _ rfl; (with_reducible repeat (first | refine blk_drewN ?_ _ | refine blk_drew ?_ | refine blk_alloc ?_ _)); refine blk_put (cs := #[.int .i64 a0_0, .int .i64 a0_1, .int .i64 0, .int .i64 0, .int .i64 0, .int .i64 0, .int .i64 0, .int .i64 0, .int .i64 0, .int .i64 0, .bool false, .int .i64 0]) ?_ 2 _ rfl; (with_reducible repeat (first | refine blk_drewN ?_ _ | refine blk_drew ?_ | refine blk_alloc ?_ _)); refine blk_put (cs := #[.int .i64 a0_0, .int .i64 0, .int .i64 0, .int .i64 0, .int .i64 0, .int .i64 0, .int .i64 0, .int .i64 0, .int .i64 0, .int .i64 0, .bool false, .int .i64 0]) ?_ 1 _ rfl; (with_reducible repeat (first | refine blk_drewN ?_ _ | refine blk_drew ?_ | refine blk_alloc ?_ _)); refine blk_put (cs := #[.int .i64 0, .int .i64 0, .int .i64 0, .int .i64 0, .int .i64 0, .int .i64 0, .int .i64 0, .int .i64 0, .int .i64 0, .int .i64 0, .bool false, .int .i64 0]) ?_ 0 _ rfl; (with_reducible repeat (first | refine blk_drewN ?_ _ | refine blk_drew ?_ | refine blk_alloc ?_ _)); exact BK102.out) Try.underlying54 rfl (by kernel_rfl)) rfl ?_
 exact ⟨by first | rfl | (simp [errW_none, errW_some] <;> rfl) | (simp [*, errW_none, errW_some] <;> rfl), by repeat (first | (with_reducible first | exact HB.out | apply below_alloc | apply pw_below_drewN | apply below_drew1 | refine below_set ?_ GE101.out | refine below_set ?_ GE102.out) | exact HB.out)⟩
def knellref12_Find.l0 : Nat → Int → Int → List (S127) → Int → Int → Option (Int)
 | 0, _, _, _, _, _ => none
 | k + 1, x5, x125000, x125001, x126000, x126001 => if x5 < (x125001.length : Int) then (if 0 ≤ x5 then (if (((rd_T127 x125001 x5).f0.f0) == x126000 && (((rd_T127 x125001 x5).f0.f1) == x126001)) = true then (some x5) else (knellref12_Find.l0 k (wrap64 (x5 + 1)) x125000 x125001 x126000 x126001)) else (none)) else (some (-1))
def knellref12_Find.f (k : Nat) (a0_0 : Int) (l0_1 : List (S127)) (a1_0 : Int) (a1_1 : Int) : Option (Int) := knellref12_Find.l0 k 0 a0_0 l0_1 a1_0 a1_1
theorem knellref12_Find.calls (k : Nat) (a0_0 : Int) (A0_1 : Option Addr) (c0_1 : Nat) (l0_1 : List (S127)) (a1_0 : Int) (a1_1 : Int) (r : Int) (w : World) (hr0_1 : Kd.C k127 w A0_1 l0_1.length l0_1) (hc0_1 : l0_1.length ≤ c0_1) (h : knellref12_Find.f k a0_0 l0_1 a1_0 a1_1 = some r) :
  Calls Try.prog 68 #[.agg #[.int .i64 a0_0, .slice A0_1 l0_1.length c0_1], .agg #[.int .i64 a1_0, .int .i64 a1_1]] w fun e w' => e = .returned (.int .i64 r) ∧ Below w.heap.size w w' := by
 have hu43 := Try.underlying43
 have hu36 := Try.underlying36
 have HR0_1 := Aside0.mk hr0_1
 have HC0_1 := Aside0.mk hc0_1
 clear hr0_1 hc0_1
 have HB := Aside0.mk (Below.refl w.heap.size w)
 have H : (knellref12_Find.l0 k 0 a0_0 l0_1 a1_0 a1_1) = some r := h
 clear h
 have H' := Aside0.mk H
 clear H
 go_enter Try.func68, Try.ntmps68
 go_wp2_with (first | ((with_reducible refine gate_dst (N := 2) rfl ?_); refine box_event ?hg (N := 2) ?hd (cs := #[.int .i64 a0_0, .slice A0_1 l0_1.length c0_1]) (t := 43) ?hr ?_; (case hd => rfl); (case hg => rfl); (case hr => first | (go_simp; done) | (go_simp; rfl)); intro gb124 hg w3 hbox hb; have n0_ := Aside0.mk (below_step (by repeat (first | (with_reducible first | exact HB.out | apply below_alloc | apply pw_below_drewN | apply below_drew1) | exact HB.out)) hb); have n1_ := Aside0.mk (hbox); have n2_ := Aside0.mk ((by rw [hg]; exact (below_size (by repeat (first | (with_reducible first | exact HB.out | apply below_alloc | apply pw_below_drewN | apply below_drew1) | exact HB.out))) : w.heap.size ≤ gb124)); have n3_ := Aside0.mk ((by rw [hg]; exact (below_size (by repeat (first | (with_reducible first | exact HB.out | apply below_alloc | apply pw_below_drewN | apply below_drew1) | exact HB.out))) : w.heap.size ≤ gb124)); clear HB; have HB := n0_; have BK124 := n1_; have GW124 := n2_; have GE124 := n3_; clear n0_ n1_ n2_ n3_; clear hb hbox hg) | ((with_reducible refine gate_dst (N := 3) rfl ?_); refine box_event ?hg (N := 3) ?hd (cs := #[.int .i64 a1_0, .int .i64 a1_1]) (t := 36) ?hr ?_; (case hd => rfl); (case hg => rfl); (case hr => first | (go_simp; done) | (go_simp; rfl)); intro gb125 hg w4 hbox hb; have n0_ := Aside0.mk (blk_below (g := gb124) (o := .cells #[.int .i64 a0_0, .slice A0_1 l0_1.length c0_1] 43 (0, 0)) (by (with_reducible repeat (first | refine blk_drewN ?_ _ | refine blk_drew ?_ | refine blk_alloc ?_ _)); exact BK124.out) hb); have n1_ := Aside0.mk (below_step (by repeat (first | (with_reducible first | exact HB.out | apply below_alloc | apply pw_below_drewN | apply below_drew1 | refine below_set ?_ GE124.out) | exact HB.out)) hb); have n2_ := Aside0.mk (hbox); have n3_ := Aside0.mk ((by rw [hg]; exact (below_size (by repeat (first | (with_reducible first | exact HB.out | apply below_alloc | apply pw_below_drewN | apply below_drew1 | refine below_set ?_ GE124.out) | exact HB.out))) : w.heap.size ≤ gb125)); have n4_ := Aside0.mk ((by rw [hg]; exact (below_size (by repeat (first | (with_reducible first | exact HB.out | apply below_alloc | apply pw_below_drewN | apply below_drew1 | refine below_set ?_ GE124.out) | exact HB.out))) : w.heap.size ≤ gb125)); have n5_ := Aside0.mk ((by rw [hg]; exact Nat.ne_of_lt (blk_lt (g := gb124) (o := .cells #[.int .i64 a0_0, .slice A0_1 l0_1.length c0_1] 43 (0, 0)) (by (with_reducible repeat (first | refine blk_drewN ?_ _ | refine blk_drew ?_ | refine blk_alloc ?_ _)); exact BK124.out)) : gb124 ≠ gb125)); have n6_ := Aside0.mk ((by rw [hg]; exact Nat.ne_of_gt (blk_lt (g := gb124) (o := .cells #[.int .i64 a0_0, .slice A0_1 l0_1.length c0_1] 43 (0, 0)) (by (with_reducible repeat (first | refine blk_drewN ?_ _ | refine blk_drew ?_ | refine blk_alloc ?_ _)); exact BK124.out)) : gb125 ≠ gb124)); clear BK124; clear HB; have BK124 := n0_; have HB := n1_; have BK125 := n2_; have GW125 := n3_; have GE125 := n4_; have NB124_125 := n5_; have NB125_124 := n6_; clear n0_ n1_ n2_ n3_ n4_ n5_ n6_; clear hb hbox hg))
 repeat (go_quiet (first | ((with_reducible refine gate_dst (N := 2) rfl ?_); refine box_event ?hg (N := 2) ?hd (cs := #[.int .i64 a0_0, .slice A0_1 l0_1.length c0_1]) (t := 43) ?hr ?_; (case hd => rfl); (case hg => rfl); (case hr => first | (go_simp; done) | (go_simp; rfl)); intro gb124 hg w3 hbox hb; have n0_ := Aside0.mk (below_step (by repeat (first | (with_reducible first | exact HB.out | apply below_alloc | apply pw_below_drewN | apply below_drew1) | exact HB.out)) hb); have n1_ := Aside0.mk (hbox); have n2_ := Aside0.mk ((by rw [hg]; exact (below_size (by repeat (first | (with_reducible first | exact HB.out | apply below_alloc | apply pw_below_drewN | apply below_drew1) | exact HB.out))) : w.heap.size ≤ gb124)); have n3_ := Aside0.mk ((by rw [hg]; exact (below_size (by repeat (first | (with_reducible first | exact HB.out | apply below_alloc | apply pw_below_drewN | apply below_drew1) | exact HB.out))) : w.heap.size ≤ gb124)); clear HB; have HB := n0_; have BK124 := n1_; have GW124 := n2_; have GE124 := n3_; clear n0_ n1_ n2_ n3_; clear hb hbox hg) | ((with_reducible refine gate_dst (N := 3) rfl ?_); refine box_event ?hg (N := 3) ?hd (cs := #[.int .i64 a1_0, .int .i64 a1_1]) (t := 36) ?hr ?_; (case hd => rfl); (case hg => rfl); (case hr => first | (go_simp; done) | (go_simp; rfl)); intro gb125 hg w4 hbox hb; have n0_ := Aside0.mk (blk_below (g := gb124) (o := .cells #[.int .i64 a0_0, .slice A0_1 l0_1.length c0_1] 43 (0, 0)) (by (with_reducible repeat (first | refine blk_drewN ?_ _ | refine blk_drew ?_ | refine blk_alloc ?_ _)); exact BK124.out) hb); have n1_ := Aside0.mk (below_step (by repeat (first | (with_reducible first | exact HB.out | apply below_alloc | apply pw_below_drewN | apply below_drew1 | refine below_set ?_ GE124.out) | exact HB.out)) hb); have n2_ := Aside0.mk (hbox); have n3_ := Aside0.mk ((by rw [hg]; exact (below_size (by repeat (first | (with_reducible first | exact HB.out | apply below_alloc | apply pw_below_drewN | apply below_drew1 | refine below_set ?_ GE124.out) | exact HB.out))) : w.heap.size ≤ gb125)); have n4_ := Aside0.mk ((by rw [hg]; exact (below_size (by repeat (first | (with_reducible first | exact HB.out | apply below_alloc | apply pw_below_drewN | apply below_drew1 | refine below_set ?_ GE124.out) | exact HB.out))) : w.heap.size ≤ gb125)); have n5_ := Aside0.mk ((by rw [hg]; exact Nat.ne_of_lt (blk_lt (g := gb124) (o := .cells #[.int .i64 a0_0, .slice A0_1 l0_1.length c0_1] 43 (0, 0)) (by (with_reducible repeat (first | refine blk_drewN ?_ _ | refine blk_drew ?_ | refine blk_alloc ?_ _)); exact BK124.out)) : gb124 ≠ gb125)); have n6_ := Aside0.mk ((by rw [hg]; exact Nat.ne_of_gt (blk_lt (g := gb124) (o := .cells #[.int .i64 a0_0, .slice A0_1 l0_1.length c0_1] 43 (0, 0)) (by (with_reducible repeat (first | refine blk_drewN ?_ _ | refine blk_drew ?_ | refine blk_alloc ?_ _)); exact BK124.out)) : gb125 ≠ gb124)); clear BK124; clear HB; have BK124 := n0_; have HB := n1_; have BK125 := n2_; have GW125 := n3_; have GE125 := n4_; have NB124_125 := n5_; have NB125_124 := n6_; clear n0_ n1_ n2_ n3_ n4_ n5_ n6_; clear hb hbox hg)); try go_wp2_with (first | ((with_reducible refine gate_dst (N := 2) rfl ?_); refine box_event ?hg (N := 2) ?hd (cs := #[.int .i64 a0_0, .slice A0_1 l0_1.length c0_1]) (t := 43) ?hr ?_; (case hd => rfl); (case hg => rfl); (case hr => first | (go_simp; done) | (go_simp; rfl)); intro gb124 hg w3 hbox hb; have n0_ := Aside0.mk (below_step (by repeat (first | (with_reducible first | exact HB.out | apply below_alloc | apply pw_below_drewN | apply below_drew1) | exact HB.out)) hb); have n1_ := Aside0.mk (hbox); have n2_ := Aside0.mk ((by rw [hg]; exact (below_size (by repeat (first | (with_reducible first | exact HB.out | apply below_alloc | apply pw_below_drewN | apply below_drew1) | exact HB.out))) : w.heap.size ≤ gb124)); have n3_ := Aside0.mk ((by rw [hg]; exact (below_size (by repeat (first | (with_reducible first | exact HB.out | apply below_alloc | apply pw_below_drewN | apply below_drew1) | exact HB.out))) : w.heap.size ≤ gb124)); clear HB; have HB := n0_; have BK124 := n1_; have GW124 := n2_; have GE124 := n3_; clear n0_ n1_ n2_ n3_; clear hb hbox hg) | ((with_reducible refine gate_dst (N := 3) rfl ?_); refine box_event ?hg (N := 3) ?hd (cs := #[.int .i64 a1_0, .int .i64 a1_1]) (t := 36) ?hr ?_; (case hd => rfl); (case hg => rfl); (case hr => first | (go_simp; done) | (go_simp; rfl)); intro gb125 hg w4 hbox hb; have n0_ := Aside0.mk (blk_below (g := gb124) (o := .cells #[.int .i64 a0_0, .slice A0_1 l0_1.length c0_1] 43 (0, 0)) (by (with_reducible repeat (first | refine blk_drewN ?_ _ | refine blk_drew ?_ | refine blk_alloc ?_ _)); exact BK124.out) hb); have n1_ := Aside0.mk (below_step (by repeat (first | (with_reducible first | exact HB.out | apply below_alloc | apply pw_below_drewN | apply below_drew1 | refine below_set ?_ GE124.out) | exact HB.out)) hb); have n2_ := Aside0.mk (hbox); have n3_ := Aside0.mk ((by rw [hg]; exact (below_size (by repeat (first | (with_reducible first | exact HB.out | apply below_alloc | apply pw_below_drewN | apply below_drew1 | refine below_set ?_ GE124.out) | exact HB.out))) : w.heap.size ≤ gb125)); have n4_ := Aside0.mk ((by rw [hg]; exact (below_size (by repeat (first | (with_reducible first | exact HB.out | apply below_alloc | apply pw_below_drewN | apply below_drew1 | refine below_set ?_ GE124.out) | exact HB.out))) : w.heap.size ≤ gb125)); have n5_ := Aside0.mk ((by rw [hg]; exact Nat.ne_of_lt (blk_lt (g := gb124) (o := .cells #[.int .i64 a0_0, .slice A0_1 l0_1.length c0_1] 43 (0, 0)) (by (with_reducible repeat (first | refine blk_drewN ?_ _ | refine blk_drew ?_ | refine blk_alloc ?_ _)); exact BK124.out)) : gb124 ≠ gb125)); have n6_ := Aside0.mk ((by rw [hg]; exact Nat.ne_of_gt (blk_lt (g := gb124) (o := .cells #[.int .i64 a0_0, .slice A0_1 l0_1.length c0_1] 43 (0, 0)) (by (with_reducible repeat (first | refine blk_drewN ?_ _ | refine blk_drew ?_ | refine blk_alloc ?_ _)); exact BK124.out)) : gb125 ≠ gb124)); clear BK124; clear HB; have BK124 := n0_; have HB := n1_; have BK125 := n2_; have GW125 := n3_; have GE125 := n4_; have NB124_125 := n5_; have NB125_124 := n6_; clear n0_ n1_ n2_ n3_ n4_ n5_ n6_; clear hb hbox hg)))
 go_loopg [5] k (fun kq v5 w' => ∃ (x5_1 : Int), v5 = .int .i64 x5_1 ∧ Aside0 (knellref12_Find.l0 kq x5_1 a0_0 l0_1 a1_0 a1_1 = some r) ∧ Aside0 (kq ≤ k) ∧ Aside0 (w'.heap[gb124]? = some (.cells #[.int .i64 a0_0, (.slice A0_1 l0_1.length c0_1)] 43 (0, 0))) ∧ Aside0 (w'.heap[gb125]? = some (.cells #[.int .i64 a1_0, .int .i64 a1_1] 36 (0, 0))) ∧ Aside0 (Below w.heap.size w w'))
 case atStart => exact ⟨(0), (by first | rfl | (simp; done) | (simp [*]; done)), H', ⟨Nat.le_refl _⟩, ⟨by (with_reducible repeat (first | refine blk_drewN ?_ _ | refine blk_drew ?_ | refine blk_alloc ?_ _)); exact BK124.out⟩, ⟨by (with_reducible repeat (first | refine blk_drewN ?_ _ | refine blk_drew ?_ | refine blk_alloc ?_ _)); exact BK125.out⟩, ⟨by repeat (first | (with_reducible first | exact HB.out | apply below_alloc | apply pw_below_drewN | apply below_drew1 | refine below_set ?_ GE124.out | refine below_set ?_ GE125.out) | exact HB.out)⟩⟩
 case round =>
  clear H'
  try clear p2
  obtain ⟨x5_1, rfl, HA, HK1, BK124, BK125, HB⟩ := hrel
  cases gk with
  | zero => exact absurd HA.out (by simp [knellref12_Find.l0])
  | succ k1 =>
   have H := HA.out
   clear HA
   simp only [knellref12_Find.l0] at H
   by_cases c5 : x5_1 < (l0_1.length : Int)
   ·rw [if_pos c5] at H
    have c5b0 : decide (x5_1 < (l0_1.length : Int)) = true := decide_eq_true c5
    clear c5
    by_cases c6 : 0 ≤ x5_1
    ·rw [if_pos c6] at H
     have c6b0 : decide (0 ≤ x5_1) = true := decide_eq_true c6
     clear c6
     by_cases c7 : (((rd_T127 l0_1 x5_1).f0.f0) == a1_0 && (((rd_T127 l0_1 x5_1).f0.f1) == a1_1)) = true
     ·rw [if_pos c7] at H
      have c7b0 : (((rd_T127 l0_1 x5_1).f0.f0) == a1_0 && (((rd_T127 l0_1 x5_1).f0.f1) == a1_1)) = true := c7
      (try (have c7b1 : decide (((rd_T127 l0_1 x5_1).f0.f0) = a1_0 && (((rd_T127 l0_1 x5_1).f0.f1) == a1_1)) = true := by simpa using c7))
      (try (have c7b2 : (((rd_T127 l0_1 x5_1).f0.f0) == a1_0 && (((rd_T127 l0_1 x5_1).f0.f1) == a1_1)) = true := by simpa using c7))
      clear c7
      obtain rfl := Option.some.inj H
      have hnb8 := NB124_125.out
      have hnc8 := NB125_124.out
      have hcz9_0 : wr.cell? ⟨gb124, 0, none⟩ = some (.int .i64 a0_0) := (blk_cell BK124.out 0).trans rfl
      have hcz9_1 : wr.cell? ⟨gb124, 1, none⟩ = some (.slice A0_1 l0_1.length c0_1) := (blk_cell BK124.out 1).trans rfl
      have hfz9_0 := blk_frozen BK124.out 0
      have hfz9_1 := blk_frozen BK124.out 1
      have p126 : 0 ≤ (x5_1 : Int) := of_decide_eq_true (by first | (with_reducible assumption) | assumption)
      have q126 : x5_1 < (l0_1.length : Int) := of_decide_eq_true (by first | (with_reducible assumption) | assumption)
      obtain ⟨ad126, e126, hx126_0, hx126_1, hx126_2, hx126_3⟩ := at_T127 HR0_1.out x5_1 p126 q126
      cases e126
      replace hx126_0 := (HB.out.cell (World.block_lt_of_cell? w _ hx126_0)).trans hx126_0
      replace hx126_1 := (HB.out.cell (World.block_lt_of_cell? w _ hx126_1)).trans hx126_1
      replace hx126_2 := (HB.out.cell (World.block_lt_of_cell? w _ hx126_2)).trans hx126_2
      replace hx126_3 := (HB.out.cell (World.block_lt_of_cell? w _ hx126_3)).trans hx126_3
      replace p126 := eq_true p126
      replace q126 := eq_true q126
      have hcz10_0 : wr.cell? ⟨gb125, 0, none⟩ = some (.int .i64 a1_0) := (blk_cell BK125.out 0).trans rfl
      have hcz10_1 : wr.cell? ⟨gb125, 1, none⟩ = some (.int .i64 a1_1) := (blk_cell BK125.out 1).trans rfl
      have hfz10_0 := blk_frozen BK125.out 0
      have hfz10_1 := blk_frozen BK125.out 1
      go_wp2
      repeat (go_quiet (fail); try go_wp2)
      go_ret
      exact ⟨by first | rfl | (simp [errW_none, errW_some] <;> rfl) | (simp [*, errW_none, errW_some] <;> rfl), by repeat (first | (with_reducible first | exact HB.out | apply below_alloc | apply pw_below_drewN | apply below_drew1 | refine below_set ?_ GE124.out | refine below_set ?_ GE125.out) | exact HB.out)⟩
     ·rw [if_neg c7] at H
      have c7b0 : (((rd_T127 l0_1 x5_1).f0.f0) == a1_0 && (((rd_T127 l0_1 x5_1).f0.f1) == a1_1)) = false := by simpa using c7
      (try (have c7b1 : decide (((rd_T127 l0_1 x5_1).f0.f0) = a1_0 && (((rd_T127 l0_1 x5_1).f0.f1) == a1_1)) = false := by simpa using c7))
      (try (have c7b2 : (((rd_T127 l0_1 x5_1).f0.f0) == a1_0 && (((rd_T127 l0_1 x5_1).f0.f1) == a1_1)) = false := by simpa using c7))
      (try (have c7b3 : ¬ (((rd_T127 l0_1 x5_1).f0.f0) = a1_0 && (((rd_T127 l0_1 x5_1).f0.f1) == a1_1)) := by simpa using c7))
      clear c7
      have H' := Aside0.mk H
      clear H
      have hnb11 := NB124_125.out
      have hnc11 := NB125_124.out
      have hcz12_0 : wr.cell? ⟨gb124, 0, none⟩ = some (.int .i64 a0_0) := (blk_cell BK124.out 0).trans rfl
      have hcz12_1 : wr.cell? ⟨gb124, 1, none⟩ = some (.slice A0_1 l0_1.length c0_1) := (blk_cell BK124.out 1).trans rfl
      have hfz12_0 := blk_frozen BK124.out 0
      have hfz12_1 := blk_frozen BK124.out 1
      have p126 : 0 ≤ (x5_1 : Int) := of_decide_eq_true (by first | (with_reducible assumption) | assumption)
      have q126 : x5_1 < (l0_1.length : Int) := of_decide_eq_true (by first | (with_reducible assumption) | assumption)
      obtain ⟨ad126, e126, hx126_0, hx126_1, hx126_2, hx126_3⟩ := at_T127 HR0_1.out x5_1 p126 q126
      cases e126
      replace hx126_0 := (HB.out.cell (World.block_lt_of_cell? w _ hx126_0)).trans hx126_0
      replace hx126_1 := (HB.out.cell (World.block_lt_of_cell? w _ hx126_1)).trans hx126_1
      replace hx126_2 := (HB.out.cell (World.block_lt_of_cell? w _ hx126_2)).trans hx126_2
      replace hx126_3 := (HB.out.cell (World.block_lt_of_cell? w _ hx126_3)).trans hx126_3
      replace p126 := eq_true p126
      replace q126 := eq_true q126
      have hcz13_0 : wr.cell? ⟨gb125, 0, none⟩ = some (.int .i64 a1_0) := (blk_cell BK125.out 0).trans rfl
      have hcz13_1 : wr.cell? ⟨gb125, 1, none⟩ = some (.int .i64 a1_1) := (blk_cell BK125.out 1).trans rfl
      have hfz13_0 := blk_frozen BK125.out 0
      have hfz13_1 := blk_frozen BK125.out 1
      go_wp2
      repeat (go_quiet (fail); try go_wp2)
      go_roundg k1
      case measure => have := HK1.out; omega
      case rel => exact ⟨(wrap64 (x5_1 + 1)), (by first | rfl | (simp; done) | (simp [*]; done)), H', ⟨by have := HK1.out; omega⟩, ⟨by (with_reducible repeat (first | refine blk_drewN ?_ _ | refine blk_drew ?_ | refine blk_alloc ?_ _)); exact BK124.out⟩, ⟨by (with_reducible repeat (first | refine blk_drewN ?_ _ | refine blk_drew ?_ | refine blk_alloc ?_ _)); exact BK125.out⟩, ⟨by repeat (first | (with_reducible first | exact HB.out | apply below_alloc | apply pw_below_drewN | apply below_drew1 | refine below_set ?_ GE124.out | refine below_set ?_ GE125.out) | exact HB.out)⟩⟩
    ·rw [if_neg c6] at H
     exact absurd H (by simp)
   ·rw [if_neg c5] at H
    have c5b0 : decide (x5_1 < (l0_1.length : Int)) = false := decide_eq_false c5
    clear c5
    obtain rfl := Option.some.inj H
    have hnb14 := NB124_125.out
    have hnc14 := NB125_124.out
    have hcz15_0 : wr.cell? ⟨gb124, 0, none⟩ = some (.int .i64 a0_0) := (blk_cell BK124.out 0).trans rfl
    have hcz15_1 : wr.cell? ⟨gb124, 1, none⟩ = some (.slice A0_1 l0_1.length c0_1) := (blk_cell BK124.out 1).trans rfl
    have hfz15_0 := blk_frozen BK124.out 0
    have hfz15_1 := blk_frozen BK124.out 1
    go_wp2
    repeat (go_quiet (fail); try go_wp2)
    go_ret
    exact ⟨by first | rfl | (simp [errW_none, errW_some] <;> rfl) | (simp [*, errW_none, errW_some] <;> rfl), by repeat (first | (with_reducible first | exact HB.out | apply below_alloc | apply pw_below_drewN | apply below_drew1 | refine below_set ?_ GE124.out | refine below_set ?_ GE125.out) | exact HB.out)⟩
def knellref12_Status.f (k : Nat) (a0_0 : Int) (l0_1 : List (S127)) (a1_0 : Int) (a1_1 : Int) : Option (Int) := (knellref12_Find.f k a0_0 l0_1 a1_0 a1_1).bind fun t129 => (if t129 < 0 then (some 0) else (if 0 ≤ t129 then (if t129 < (l0_1.length : Int) then (some ((rd_T127 l0_1 t129).f1)) else (none)) else (none)))
theorem knellref12_Status.calls (k : Nat) (a0_0 : Int) (A0_1 : Option Addr) (c0_1 : Nat) (l0_1 : List (S127)) (a1_0 : Int) (a1_1 : Int) (r : Int) (w : World) (hr0_1 : Kd.C k127 w A0_1 l0_1.length l0_1) (hc0_1 : l0_1.length ≤ c0_1) (h : knellref12_Status.f k a0_0 l0_1 a1_0 a1_1 = some r) :
  Calls Try.prog 35 #[.agg #[.int .i64 a0_0, .slice A0_1 l0_1.length c0_1], .agg #[.int .i64 a1_0, .int .i64 a1_1]] w fun e w' => e = .returned (.int .i64 r) ∧ Below w.heap.size w w' := by
 have hu43 := Try.underlying43
 have hu36 := Try.underlying36
 have HR0_1 := Aside0.mk hr0_1
 have HC0_1 := Aside0.mk hc0_1
 clear hr0_1 hc0_1
 have HB := Aside0.mk (Below.refl w.heap.size w)
 have H : ((knellref12_Find.f k a0_0 l0_1 a1_0 a1_1).bind fun t129 => (if t129 < 0 then (some 0) else (if 0 ≤ t129 then (if t129 < (l0_1.length : Int) then (some ((rd_T127 l0_1 t129).f1)) else (none)) else (none)))) = some r := h
 clear h
 replace H := Option.bind_eq_some_iff.mp H
 obtain ⟨t129, A30, H⟩ := H
 replace H : (if t129 < 0 then (some 0) else (if 0 ≤ t129 then (if t129 < (l0_1.length : Int) then (some ((rd_T127 l0_1 t129).f1)) else (none)) else (none))) = some r := H
 have A3 := Aside0.mk A30
 clear A30
 by_cases c4 : t129 < 0
 ·rw [if_pos c4] at H
  have c4b0 : decide (t129 < 0) = true := decide_eq_true c4
  clear c4
  obtain rfl := Option.some.inj H
  go_enter Try.func35, Try.ntmps35
  go_wp2_with (first | ((with_reducible refine gate_dst (N := 2) rfl ?_); refine box_event ?hg (N := 2) ?hd (cs := #[.int .i64 a0_0, .slice A0_1 l0_1.length c0_1]) (t := 43) ?hr ?_; (case hd => rfl); (case hg => rfl); (case hr => first | (go_simp; done) | (go_simp; rfl)); intro gb127 hg w5 hbox hb; have n0_ := Aside0.mk (below_step (by repeat (first | (with_reducible first | exact HB.out | apply below_alloc | apply pw_below_drewN | apply below_drew1) | exact HB.out)) hb); have n1_ := Aside0.mk (hbox); have n2_ := Aside0.mk ((by rw [hg]; exact (below_size (by repeat (first | (with_reducible first | exact HB.out | apply below_alloc | apply pw_below_drewN | apply below_drew1) | exact HB.out))) : w.heap.size ≤ gb127)); have n3_ := Aside0.mk ((by rw [hg]; exact (below_size (by repeat (first | (with_reducible first | exact HB.out | apply below_alloc | apply pw_below_drewN | apply below_drew1) | exact HB.out))) : w.heap.size ≤ gb127)); clear HB; have HB := n0_; have BK127 := n1_; have GW127 := n2_; have GE127 := n3_; clear n0_ n1_ n2_ n3_; clear hb hbox hg) | ((with_reducible refine gate_dst (N := 3) rfl ?_); refine box_event ?hg (N := 3) ?hd (cs := #[.int .i64 a1_0, .int .i64 a1_1]) (t := 36) ?hr ?_; (case hd => rfl); (case hg => rfl); (case hr => first | (go_simp; done) | (go_simp; rfl)); intro gb128 hg w6 hbox hb; have n0_ := Aside0.mk (blk_below (g := gb127) (o := .cells #[.int .i64 a0_0, .slice A0_1 l0_1.length c0_1] 43 (0, 0)) (by (with_reducible repeat (first | refine blk_drewN ?_ _ | refine blk_drew ?_ | refine blk_alloc ?_ _)); exact BK127.out) hb); have n1_ := Aside0.mk (below_step (by repeat (first | (with_reducible first | exact HB.out | apply below_alloc | apply pw_below_drewN | apply below_drew1 | refine below_set ?_ GE127.out) | exact HB.out)) hb); have n2_ := Aside0.mk (hbox); have n3_ := Aside0.mk ((by rw [hg]; exact (below_size (by repeat (first | (with_reducible first | exact HB.out | apply below_alloc | apply pw_below_drewN | apply below_drew1 | refine below_set ?_ GE127.out) | exact HB.out))) : w.heap.size ≤ gb128)); have n4_ := Aside0.mk ((by rw [hg]; exact (below_size (by repeat (first | (with_reducible first | exact HB.out | apply below_alloc | apply pw_below_drewN | apply below_drew1 | refine below_set ?_ GE127.out) | exact HB.out))) : w.heap.size ≤ gb128)); have n5_ := Aside0.mk ((by rw [hg]; exact Nat.ne_of_lt (blk_lt (g := gb127) (o := .cells #[.int .i64 a0_0, .slice A0_1 l0_1.length c0_1] 43 (0, 0)) (by (with_reducible repeat (first | refine blk_drewN ?_ _ | refine blk_drew ?_ | refine blk_alloc ?_ _)); exact BK127.out)) : gb127 ≠ gb128)); have n6_ := Aside0.mk ((by rw [hg]; exact Nat.ne_of_gt (blk_lt (g := gb127) (o := .cells #[.int .i64 a0_0, .slice A0_1 l0_1.length c0_1] 43 (0, 0)) (by (with_reducible repeat (first | refine blk_drewN ?_ _ | refine blk_drew ?_ | refine blk_alloc ?_ _)); exact BK127.out)) : gb128 ≠ gb127)); clear BK127; clear HB; have BK127 := n0_; have HB := n1_; have BK128 := n2_; have GW128 := n3_; have GE128 := n4_; have NB127_128 := n5_; have NB128_127 := n6_; clear n0_ n1_ n2_ n3_ n4_ n5_ n6_; clear hb hbox hg; have hnb7 := NB127_128.out; have hnc7 := NB128_127.out; have hcz8_0 : w6.cell? ⟨gb127, 0, none⟩ = some (.int .i64 a0_0) := (blk_cell BK127.out 0).trans rfl; have hcz8_1 : w6.cell? ⟨gb127, 1, none⟩ = some (.slice A0_1 l0_1.length c0_1) := (blk_cell BK127.out 1).trans rfl; have hfz8_0 := blk_frozen BK127.out 0; have hfz8_1 := blk_frozen BK127.out 1; have hcz9_0 : w6.cell? ⟨gb128, 0, none⟩ = some (.int .i64 a1_0) := (blk_cell BK128.out 0).trans rfl; have hcz9_1 : w6.cell? ⟨gb128, 1, none⟩ = some (.int .i64 a1_1) := (blk_cell BK128.out 1).trans rfl; have hfz9_0 := blk_frozen BK128.out 0; have hfz9_1 := blk_frozen BK128.out 1) | ((with_reducible refine gate_callee (f := 68) rfl ?_); refine goesL_ (some 8) rfl rfl Try.func68 (by kernel_rfl) rfl #[.agg #[.int .i64 a0_0, .slice A0_1 l0_1.length c0_1], .agg #[.int .i64 a1_0, .int .i64 a1_1]] rfl (by (try simp only [List.map_toArray, List.map_cons, List.map_nil]); first | done | rfl | (simp only [List.length_drop, List.length_take]; rfl)) ?_; (with_reducible refine (knellref12_Find.calls k a0_0 _ _ l0_1 a1_0 a1_1 t129 _ ?side1 ?side2 A3.out).mono ?_); (case side1 => repeat (first | exact (Kd.C_below HR0_1.out HB.out) | (with_reducible refine Kd.C_alloc ?_ _) | (with_reducible refine Kd.C_drewN ?_ _) | (with_reducible refine Kd.C_drew ?_))); (case side2 => exact HC0_1.out); rintro e w10 ⟨rfl, hb⟩; refine ⟨_, rfl, ?_⟩; have n0_ := Aside0.mk (blk_below (g := gb127) (o := .cells #[.int .i64 a0_0, .slice A0_1 l0_1.length c0_1] 43 (0, 0)) (by (with_reducible repeat (first | refine blk_drewN ?_ _ | refine blk_drew ?_ | refine blk_alloc ?_ _)); exact BK127.out) hb); have n1_ := Aside0.mk (blk_below (g := gb128) (o := .cells #[.int .i64 a1_0, .int .i64 a1_1] 36 (0, 0)) (by (with_reducible repeat (first | refine blk_drewN ?_ _ | refine blk_drew ?_ | refine blk_alloc ?_ _)); exact BK128.out) hb); have n2_ := Aside0.mk (below_step (by repeat (first | (with_reducible first | exact HB.out | apply below_alloc | apply pw_below_drewN | apply below_drew1 | refine below_set ?_ GE127.out | refine below_set ?_ GE128.out) | exact HB.out)) hb); clear BK127; clear BK128; clear HB; have BK127 := n0_; have BK128 := n1_; have HB := n2_; clear n0_ n1_ n2_; (try clear hb); (try clear hb2); (try clear hk); (try clear hi)))
  go_ret
  exact ⟨by first | rfl | (simp [errW_none, errW_some] <;> rfl) | (simp [*, errW_none, errW_some] <;> rfl), by repeat (first | (with_reducible first | exact HB.out | apply below_alloc | apply pw_below_drewN | apply below_drew1 | refine below_set ?_ GE127.out | refine below_set ?_ GE128.out) | exact HB.out)⟩
 ·rw [if_neg c4] at H
  have c4b0 : decide (t129 < 0) = false := decide_eq_false c4
  clear c4
  by_cases c11 : 0 ≤ t129
  ·rw [if_pos c11] at H
   have c11b0 : decide (0 ≤ t129) = true := decide_eq_true c11
   clear c11
   by_cases c12 : t129 < (l0_1.length : Int)
   ·rw [if_pos c12] at H
    have c12b0 : decide (t129 < (l0_1.length : Int)) = true := decide_eq_true c12
    clear c12
    obtain rfl := Option.some.inj H
    go_enter Try.func35, Try.ntmps35
    go_wp2_with (first | ((with_reducible refine gate_dst (N := 2) rfl ?_); refine box_event ?hg (N := 2) ?hd (cs := #[.int .i64 a0_0, .slice A0_1 l0_1.length c0_1]) (t := 43) ?hr ?_; (case hd => rfl); (case hg => rfl); (case hr => first | (go_simp; done) | (go_simp; rfl)); intro gb127 hg w13 hbox hb; have n0_ := Aside0.mk (below_step (by repeat (first | (with_reducible first | exact HB.out | apply below_alloc | apply pw_below_drewN | apply below_drew1) | exact HB.out)) hb); have n1_ := Aside0.mk (hbox); have n2_ := Aside0.mk ((by rw [hg]; exact (below_size (by repeat (first | (with_reducible first | exact HB.out | apply below_alloc | apply pw_below_drewN | apply below_drew1) | exact HB.out))) : w.heap.size ≤ gb127)); have n3_ := Aside0.mk ((by rw [hg]; exact (below_size (by repeat (first | (with_reducible first | exact HB.out | apply below_alloc | apply pw_below_drewN | apply below_drew1) | exact HB.out))) : w.heap.size ≤ gb127)); clear HB; have HB := n0_; have BK127 := n1_; have GW127 := n2_; have GE127 := n3_; clear n0_ n1_ n2_ n3_; clear hb hbox hg) | ((with_reducible refine gate_dst (N := 3) rfl ?_); refine box_event ?hg (N := 3) ?hd (cs := #[.int .i64 a1_0, .int .i64 a1_1]) (t := 36) ?hr ?_; (case hd => rfl); (case hg => rfl); (case hr => first | (go_simp; done) | (go_simp; rfl)); intro gb128 hg w14 hbox hb; have n0_ := Aside0.mk (blk_below (g := gb127) (o := .cells #[.int .i64 a0_0, .slice A0_1 l0_1.length c0_1] 43 (0, 0)) (by (with_reducible repeat (first | refine blk_drewN ?_ _ | refine blk_drew ?_ | refine blk_alloc ?_ _)); exact BK127.out) hb); have n1_ := Aside0.mk (below_step (by repeat (first | (with_reducible first | exact HB.out | apply below_alloc | apply pw_below_drewN | apply below_drew1 | refine below_set ?_ GE127.out) | exact HB.out)) hb); have n2_ := Aside0.mk (hbox); have n3_ := Aside0.mk ((by rw [hg]; exact (below_size (by repeat (first | (with_reducible first | exact HB.out | apply below_alloc | apply pw_below_drewN | apply below_drew1 | refine below_set ?_ GE127.out) | exact HB.out))) : w.heap.size ≤ gb128)); have n4_ := Aside0.mk ((by rw [hg]; exact (below_size (by repeat (first | (with_reducible first | exact HB.out | apply below_alloc | apply pw_below_drewN | apply below_drew1 | refine below_set ?_ GE127.out) | exact HB.out))) : w.heap.size ≤ gb128)); have n5_ := Aside0.mk ((by rw [hg]; exact Nat.ne_of_lt (blk_lt (g := gb127) (o := .cells #[.int .i64 a0_0, .slice A0_1 l0_1.length c0_1] 43 (0, 0)) (by (with_reducible repeat (first | refine blk_drewN ?_ _ | refine blk_drew ?_ | refine blk_alloc ?_ _)); exact BK127.out)) : gb127 ≠ gb128)); have n6_ := Aside0.mk ((by rw [hg]; exact Nat.ne_of_gt (blk_lt (g := gb127) (o := .cells #[.int .i64 a0_0, .slice A0_1 l0_1.length c0_1] 43 (0, 0)) (by (with_reducible repeat (first | refine blk_drewN ?_ _ | refine blk_drew ?_ | refine blk_alloc ?_ _)); exact BK127.out)) : gb128 ≠ gb127)); clear BK127; clear HB; have BK127 := n0_; have HB := n1_; have BK128 := n2_; have GW128 := n3_; have GE128 := n4_; have NB127_128 := n5_; have NB128_127 := n6_; clear n0_ n1_ n2_ n3_ n4_ n5_ n6_; clear hb hbox hg; have hnb15 := NB127_128.out; have hnc15 := NB128_127.out; have hcz16_0 : w14.cell? ⟨gb127, 0, none⟩ = some (.int .i64 a0_0) := (blk_cell BK127.out 0).trans rfl; have hcz16_1 : w14.cell? ⟨gb127, 1, none⟩ = some (.slice A0_1 l0_1.length c0_1) := (blk_cell BK127.out 1).trans rfl; have hfz16_0 := blk_frozen BK127.out 0; have hfz16_1 := blk_frozen BK127.out 1; have hcz17_0 : w14.cell? ⟨gb128, 0, none⟩ = some (.int .i64 a1_0) := (blk_cell BK128.out 0).trans rfl; have hcz17_1 : w14.cell? ⟨gb128, 1, none⟩ = some (.int .i64 a1_1) := (blk_cell BK128.out 1).trans rfl; have hfz17_0 := blk_frozen BK128.out 0; have hfz17_1 := blk_frozen BK128.out 1) | ((with_reducible refine gate_callee (f := 68) rfl ?_); refine goesL_ (some 8) rfl rfl Try.func68 (by kernel_rfl) rfl #[.agg #[.int .i64 a0_0, .slice A0_1 l0_1.length c0_1], .agg #[.int .i64 a1_0, .int .i64 a1_1]] rfl (by (try simp only [List.map_toArray, List.map_cons, List.map_nil]); first | done | rfl | (simp only [List.length_drop, List.length_take]; rfl)) ?_; (with_reducible refine (knellref12_Find.calls k a0_0 _ _ l0_1 a1_0 a1_1 t129 _ ?side1 ?side2 A3.out).mono ?_); (case side1 => repeat (first | exact (Kd.C_below HR0_1.out HB.out) | (with_reducible refine Kd.C_alloc ?_ _) | (with_reducible refine Kd.C_drewN ?_ _) | (with_reducible refine Kd.C_drew ?_))); (case side2 => exact HC0_1.out); rintro e w18 ⟨rfl, hb⟩; refine ⟨_, rfl, ?_⟩; have n0_ := Aside0.mk (blk_below (g := gb127) (o := .cells #[.int .i64 a0_0, .slice A0_1 l0_1.length c0_1] 43 (0, 0)) (by (with_reducible repeat (first | refine blk_drewN ?_ _ | refine blk_drew ?_ | refine blk_alloc ?_ _)); exact BK127.out) hb); have n1_ := Aside0.mk (blk_below (g := gb128) (o := .cells #[.int .i64 a1_0, .int .i64 a1_1] 36 (0, 0)) (by (with_reducible repeat (first | refine blk_drewN ?_ _ | refine blk_drew ?_ | refine blk_alloc ?_ _)); exact BK128.out) hb); have n2_ := Aside0.mk (below_step (by repeat (first | (with_reducible first | exact HB.out | apply below_alloc | apply pw_below_drewN | apply below_drew1 | refine below_set ?_ GE127.out | refine below_set ?_ GE128.out) | exact HB.out)) hb); clear BK127; clear BK128; clear HB; have BK127 := n0_; have BK128 := n1_; have HB := n2_; clear n0_ n1_ n2_; (try clear hb); (try clear hb2); (try clear hk); (try clear hi); have hcz19_0 : w18.cell? ⟨gb127, 0, none⟩ = some (.int .i64 a0_0) := (blk_cell BK127.out 0).trans rfl; have hcz19_1 : w18.cell? ⟨gb127, 1, none⟩ = some (.slice A0_1 l0_1.length c0_1) := (blk_cell BK127.out 1).trans rfl; have hfz19_0 := blk_frozen BK127.out 0; have hfz19_1 := blk_frozen BK127.out 1; have p130 : 0 ≤ (t129 : Int) := of_decide_eq_true (by first | (with_reducible assumption) | assumption); have q130 : t129 < (l0_1.length : Int) := of_decide_eq_true (by first | (with_reducible assumption) | assumption); obtain ⟨ad130, e130, hx130_0, hx130_1, hx130_2, hx130_3⟩ := at_T127 HR0_1.out t129 p130 q130; cases e130; replace hx130_0 := (HB.out.cell (World.block_lt_of_cell? w _ hx130_0)).trans hx130_0; replace hx130_1 := (HB.out.cell (World.block_lt_of_cell? w _ hx130_1)).trans hx130_1; replace hx130_2 := (HB.out.cell (World.block_lt_of_cell? w _ hx130_2)).trans hx130_2; replace hx130_3 := (HB.out.cell (World.block_lt_of_cell? w _ hx130_3)).trans hx130_3; replace p130 := eq_true p130; replace q130 := eq_true q130))
    go_ret
    exact ⟨by first | rfl | (simp [errW_none, errW_some] <;> rfl) | (simp [*, errW_none, errW_some] <;> rfl), by repeat (first | (with_reducible first | exact HB.out | apply below_alloc | apply pw_below_drewN | apply below_drew1 | refine below_set ?_ GE127.out | refine below_set ?_ GE128.out) | exact HB.out)⟩
   ·rw [if_neg c12] at H
    exact absurd H (by simp)
  ·rw [if_neg c11] at H
   exact absurd H (by simp)
end Go.Proofs.Ythniclbmpeklmaa.KJf
end
section
namespace Go.Proofs.Ythniclbmpeklmaa.Mo
open Go.RowKit Go.Maps Go.Proofs.YthniclbmpeklmaaW.PrintWords Go.Proofs.YthniclbmpeklmaaW.PrintLast Go.Proofs.YthniclbmpeklmaaW.PrintMore Go.Proofs.Ythniclbmpeklmaa.Mp Go.Proofs.Ythniclbmpeklmaa.Ju
open Go.Proofs.Ythniclbmpeklmaa.Au (Ha RowIs flat_get flat_len haV lawH types_ne evA Ev Fr)
set_option linter.unusedVariables false
set_option linter.unusedSimpArgs false
theorem of_ev (e : Ev) (W : World) : Calls Try.prog 30 #[.agg (evA e)] W fun r w' => r = .returned (.agg (evA e)) ∧ Below W.heap.size W w' :=
 KJf.knelllaw11_Of.calls _ _ _ _ _ _ _ _ _ _ _ _ _ _ _ _ _ _ _ _ _ _ _ _ W rfl
theorem row_lower {w : World} {B B' T k : Nat} {α : Type} {A : α → Array Value} {v : Value} {L : List α} (h : RowIs w B T k A v L) (hB : B' ≤ B) : RowIs w B' T k A v L := by
 refine ⟨h.1, ?_⟩
 rcases h.2 with q | ⟨g, cap, cur, hv, hb, q⟩
 ·exact .inl q
 ·exact .inr ⟨g, cap, cur, hv, Nat.le_trans hB hb, q⟩
theorem least_uniq {L : List Tm} {d d' : Int} (h : LeastIs L d) (h' : LeastIs L d') : d = d' := by
 rcases h with ⟨h1, h2⟩ | ⟨⟨x, hx, h1⟩, h2⟩
 ·rcases h' with ⟨_, h3⟩ | ⟨⟨y, hy, _⟩, _⟩
  ·rw [h2, h3]
  ·rw [h1] at hy; cases hy
 ·rcases h' with ⟨h3, _⟩ | ⟨⟨y, hy, h3⟩, h4⟩
  ·rw [h3] at hx; cases hx
  ·have := h2 y hy; have := h4 x hx; omega
theorem armed_uniq {m : Md} {L L' : List Tm} (h : ArmedIs m L) (h' : ArmedIs m L') : L = L' := by
 have key : ∀ (n : Nat) (L L' : List Tm), L.length = n → L.Pairwise ltT → L'.Pairwise ltT → (∀ x, x ∈ L ↔ x ∈ L') → L = L' := by
  intro n
  induction n with
  | zero =>
   intro L L' hl _ _ hm
   obtain rfl := List.length_eq_zero_iff.1 hl
   cases L' with
   | nil => rfl
   | cons y r => exact absurd ((hm y).2 (by simp)) (by simp)
  | succ n ih =>
   intro L L' hl h1 h2 hm
   cases L with
   | nil => cases hl
   | cons x r =>
    cases L' with
    | nil => exact absurd ((hm x).1 (by simp)) (by simp)
    | cons y s =>
     rw [List.pairwise_cons] at h1 h2
     have e : x = y := by
      rcases List.mem_cons.1 ((hm x).1 (by simp)) with q | q
      ·exact q
      ·rcases List.mem_cons.1 ((hm y).2 (by simp)) with q2 | q2
       ·exact q2.symm
       ·have a := h1.1 y q2; have c := h2.1 x q; unfold ltT at a c; omega
     subst e
     rw [ih r s (by simpa using hl) h1.2 h2.2 (fun z => ?_)]
     have hz := hm z
     rw [List.mem_cons, List.mem_cons] at hz
     refine ⟨fun q => ?_, fun q => ?_⟩
     ·rcases hz.1 (.inr q) with e | q2
      ·subst e; have a := h1.1 z q; unfold ltT at a; omega
      ·exact q2
     ·rcases hz.2 (.inr q) with e | q2
      ·subst e; have a := h2.1 z q; unfold ltT at a; omega
      ·exact q2
 refine key _ L L' rfl (List.pairwise_iff_getElem.2 fun i j hi hj hij => h.sorted i j hi hj hij) (List.pairwise_iff_getElem.2 fun i j hi hj hij => h'.sorted i j hi hj hij) fun x => ⟨fun q => ?_, fun q => ?_⟩
 ·exact (h'.mem x.1 x.2 (h.wf x q)).2 ((h.mem x.1 x.2 (h.wf x q)).1 q)
 ·exact (h.mem x.1 x.2 (h'.wf x q)).2 ((h'.mem x.1 x.2 (h'.wf x q)).1 q)
end Go.Proofs.Ythniclbmpeklmaa.Mo
end
