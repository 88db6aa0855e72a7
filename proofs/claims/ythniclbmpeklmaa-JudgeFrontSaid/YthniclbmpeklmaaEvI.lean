/- What is proved: whether an event is right, as the program tells it, is as the reference tells it; no conditions. -/
import Derived.Test.YthniclbmpeklmaaEvH
import Derived.Deep.RegionWith
import Derived.Deep.RegionHeld3
namespace Go.Proofs.Ythniclbmpeklmaa.Ev
open Go.RowKit Go.Proofs.YthniclbmpeklmaaW.PrintWords Go.Proofs.YthniclbmpeklmaaW.PrintLast Go.Proofs.YthniclbmpeklmaaW.PrintMore
set_option linter.unusedVariables false
set_option linter.unusedSimpArgs false

theorem dlt {x : Int} (h : 0 ≤ x) : decide (x < 0) = false := decide_eq_false (by omega)
attribute [local go_sem high] eqEv eqHa
set_option maxHeartbeats 4000000 in
set_option maxRecDepth 100000 in
theorem right_walk (k wk op hn hg nn ng t a u : Int) (y : Bool) (er : Int) (f : Int) (ok q : Bool) (x1 x2 x3 x4 x5 x6 x7 : Int) (x8 : Bool) (x9 : Int)
    (CF : Aside0 (∀ W, Calls Try.prog 92 #[.agg (evC k wk op hn hg nn ng t a u y er)] W fun e w' => e = .returned (.tuple #[.int .i64 f, .bool ok]) ∧ Below W.heap.size W w'))
    (CC : Aside0 (∀ W, Calls Try.prog 93 #[.agg (evC k wk op hn hg nn ng t a u y er)] W fun e w' => e = .returned (.bool q) ∧ Below W.heap.size W w'))
    (CB : Aside0 (∀ W, Calls Try.prog 94 #[.agg (evC k wk op hn hg nn ng t a u y er), .int .i64 f] W fun e w' => e = .returned (.agg (evC k wk op x1 x2 x3 x4 x5 x6 x7 x8 x9)) ∧ Below W.heap.size W w')) (w : World) :
    Calls Try.prog 65 #[.agg (evC k wk op hn hg nn ng t a u y er)] w fun e w' => e = .returned (.bool (ok && (!decide (wk < 0) && (!decide (er < 0) && ((k == 2) || q))) && (x1 == 0 && x2 == 0 && x3 == 0 && x4 == 0 && x5 == 0 && x6 == 0 && x7 == 0 && !x8 && x9 == 0))) ∧ Below w.heap.size w w' := by
  have hu := Try.underlying54
  have hu2 := Try.underlying34
  by_cases k2 : k = 2
  · subst k2
    have HB := Aside0.mk (below_alloc (Below.refl w.heap.size w) (.cells (evC 2 wk op hn hg nn ng t a u y er) 54))
    have HO := Aside0.mk (heap_alloc_new w (.cells (evC 2 wk op hn hg nn ng t a u y er) 54))
    go_enter Try.func65, Try.ntmps65
    go_wp2_with (first | (go_at_call 92; (with_reducible refine (CF.out _).mono ?_); rintro e w1 ⟨rfl, hb⟩; have n0 := Aside0.mk (below_step HB.out hb); have n1 := Aside0.mk ((hb.block _ (by simp)).trans HO.out); clear HB HO hb; have HB := n0; have HO := n1; clear n0 n1; have hc := fun i => blk_cell HO.out i; have hz := Aside0.mk (blk_lt HO.out)) | (go_at_call 93; (with_reducible refine (CC.out _).mono ?_); rintro e w1 ⟨rfl, hb⟩; have n0 := Aside0.mk (below_step HB.out hb); have n1 := Aside0.mk ((hb.block _ hz.out).trans HO.out); clear hc; clear HB HO hb; have HB := n0; have HO := n1; clear n0 n1; have hc := fun i => blk_cell HO.out i))
    all_goals first
      | (go_ret; exact ⟨by first | (simp [*, Bool.and_assoc, dlt]; done) | (simp_all [Bool.and_assoc, dlt]; done) | (simp [*, Bool.and_assoc, dlt]; rename_i h9; intro hq; exfalso; rcases h9 with (h9 | h9) | h9; omega; omega; (rw [hq] at h9; cases h9)), HB.out⟩)
      | (go_region_held3 (fun w' => ∀ i, w'.cell? ⟨w.heap.size, i, none⟩ = (evC 2 wk op hn hg nn ng t a u y er)[i]?) ((intro i; exact blk_cell HO.out i)) ((go_at_call 94; (with_reducible refine (CB.out _).mono ?_); rintro e w2 ⟨rfl, hb⟩; have n0 := Aside0.mk (below_step (Below.drew HB.out) hb); have n1 := Aside0.mk ((hb.block _ (by exact blk_lt HO.out)).trans (by exact HO.out)); clear hc; clear HB HO hb; have HB := n0; have HO := n1; clear n0 n1))
         go_wp2
         go_ret
         exact ⟨by first | (simp [*, Bool.and_assoc, dlt]; done) | (simp_all [Bool.and_assoc, dlt]; done) | (simp [*, Bool.and_assoc, dlt]; rename_i h9; intro hq; exfalso; rcases h9 with (h9 | h9) | h9; omega; omega; (rw [hq] at h9; cases h9)), HB.out⟩)
  · have b2 : (k == 2) = false := beq_eq_false_iff_ne.2 k2
    have b2' : (k != 2) = true := bne_iff_ne.2 k2
    clear k2
    have HB := Aside0.mk (below_alloc (Below.refl w.heap.size w) (.cells (evC k wk op hn hg nn ng t a u y er) 54))
    have HO := Aside0.mk (heap_alloc_new w (.cells (evC k wk op hn hg nn ng t a u y er) 54))
    go_enter Try.func65, Try.ntmps65
    go_wp2_with (first | (go_at_call 92; (with_reducible refine (CF.out _).mono ?_); rintro e w1 ⟨rfl, hb⟩; have n0 := Aside0.mk (below_step HB.out hb); have n1 := Aside0.mk ((hb.block _ (by simp)).trans HO.out); clear HB HO hb; have HB := n0; have HO := n1; clear n0 n1; have hc := fun i => blk_cell HO.out i; have hz := Aside0.mk (blk_lt HO.out)) | (go_at_call 93; (with_reducible refine (CC.out _).mono ?_); rintro e w1 ⟨rfl, hb⟩; have n0 := Aside0.mk (below_step HB.out hb); have n1 := Aside0.mk ((hb.block _ hz.out).trans HO.out); clear hc; clear HB HO hb; have HB := n0; have HO := n1; clear n0 n1; have hc := fun i => blk_cell HO.out i))
    all_goals first
      | (go_ret; exact ⟨by first | (simp [*, Bool.and_assoc, dlt]; done) | (simp_all [Bool.and_assoc, dlt]; done) | (simp [*, Bool.and_assoc, dlt]; rename_i h9; intro hq; exfalso; rcases h9 with (h9 | h9) | h9; omega; omega; (rw [hq] at h9; cases h9)), HB.out⟩)
      | (go_region_held3 (fun w' => ∀ i, w'.cell? ⟨w.heap.size, i, none⟩ = (evC k wk op hn hg nn ng t a u y er)[i]?) ((intro i; exact blk_cell HO.out i)) ((go_at_call 94; (with_reducible refine (CB.out _).mono ?_); rintro e w2 ⟨rfl, hb⟩; have n0 := Aside0.mk (below_step (Below.drew HB.out) hb); have n1 := Aside0.mk ((hb.block _ (by exact blk_lt HO.out)).trans (by exact HO.out)); clear hc; clear HB HO hb; have HB := n0; have HO := n1; clear n0 n1))
         go_wp2
         go_ret
         exact ⟨by first | (simp [*, Bool.and_assoc, dlt]; done) | (simp_all [Bool.and_assoc, dlt]; done) | (simp [*, Bool.and_assoc, dlt]; rename_i h9; intro hq; exfalso; rcases h9 with (h9 | h9) | h9; omega; omega; (rw [hq] at h9; cases h9)), HB.out⟩)

/-- What the program's function tells, in its own words. -/
def rightP (k wk op hn hg nn ng t a u : Int) (y : Bool) (er : Int) : Bool :=
  ((fieldsF k wk op er).2 && (!decide (wk < 0) && (!decide (er < 0) && ((k == 2) || countedB k hn hg nn ng t a u))) && (zb (fieldsF k wk op er).1 1 hn == 0 && zb (fieldsF k wk op er).1 1 hg == 0 && zb (fieldsF k wk op er).1 2 nn == 0 && zb (fieldsF k wk op er).1 2 ng == 0 && zb (fieldsF k wk op er).1 4 t == 0 && zb (fieldsF k wk op er).1 8 a == 0 && zb (fieldsF k wk op er).1 16 u == 0 && !zy (fieldsF k wk op er).1 y && zb (fieldsF k wk op er).1 64 er == 0))
theorem zb_0 {f b x : Int} (h : bits BinOp.and IntKind.i64 f b = 0) : zb f b x = x := if_pos h
theorem zb_1 {f b x : Int} (h : ¬ bits BinOp.and IntKind.i64 f b = 0) : zb f b x = 0 := if_neg h
theorem ev_right_any (k wk op hn hg nn ng t a u : Int) (y : Bool) (er : Int) (w : World) :
    Calls Try.prog 65 #[.agg (evC k wk op hn hg nn ng t a u y er)] w fun e w' => e = .returned (.bool (rightP k wk op hn hg nn ng t a u y er)) ∧ Below w.heap.size w w' :=
  right_walk k wk op hn hg nn ng t a u y er _ _ _ _ _ _ _ _ _ _ _ _ ⟨fun W => fields_any k wk op hn hg nn ng t a u y er W⟩ ⟨fun W => counted_any k wk op hn hg nn ng t a u y er W⟩ ⟨fun W => bare_any k wk op hn hg nn ng t a u y er _ (fields_in k wk op er) W⟩ w
end Go.Proofs.Ythniclbmpeklmaa.Ev
