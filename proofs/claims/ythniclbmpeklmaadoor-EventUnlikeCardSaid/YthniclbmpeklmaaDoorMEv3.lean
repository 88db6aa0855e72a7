/- What is proved: an event that is right as a text, as the reference tells it, at each kind and operation, over what it calls. -/

import Derived.Test.YthniclbmpeklmaaDoorMEv1
namespace Go.Proofs.YthniclbmpeklmaaDoor.Ev
open Go.RowKit Go.Proofs.YthniclbmpeklmaaDoorW.PrintWords Go.Proofs.YthniclbmpeklmaaDoorW.PrintLast Go.Proofs.YthniclbmpeklmaaDoorW.PrintMore
set_option linter.unusedVariables false
set_option linter.unusedSimpArgs false
set_option maxHeartbeats 4000000 in
set_option maxRecDepth 100000 in
theorem rline_4_0 (wk hn hg nn ng t a u : Int) (y : Bool) (er : Int) (zwk : (numS wk).size ≤ 21) (zt : (numS t).size ≤ 21) (zu : (numS u).size ≤ 21) (zhn : (hanS hn hg).size ≤ 43)
    (CR : Aside0 (∀ W, Calls Tryd.prog 10 #[.agg (evL 4 wk 0 hn hg nn ng t a u y er)] W fun e w' => e = .returned (.bool true) ∧ Below W.heap.size W w'))
    (Ch : Aside0 (∀ W, Calls Tryd.prog 27 #[.agg (evL 4 wk 0 hn hg nn ng t a u y er), .int .u8 104] W fun e w' => e = .returned (.bool true) ∧ Below W.heap.size W w'))
    (Cn : Aside0 (∀ W, Calls Tryd.prog 27 #[.agg (evL 4 wk 0 hn hg nn ng t a u y er), .int .u8 110] W fun e w' => e = .returned (.bool false) ∧ Below W.heap.size W w'))
    (Ct : Aside0 (∀ W, Calls Tryd.prog 27 #[.agg (evL 4 wk 0 hn hg nn ng t a u y er), .int .u8 116] W fun e w' => e = .returned (.bool true) ∧ Below W.heap.size W w'))
    (Ca : Aside0 (∀ W, Calls Tryd.prog 27 #[.agg (evL 4 wk 0 hn hg nn ng t a u y er), .int .u8 97] W fun e w' => e = .returned (.bool false) ∧ Below W.heap.size W w'))
    (Cu : Aside0 (∀ W, Calls Tryd.prog 27 #[.agg (evL 4 wk 0 hn hg nn ng t a u y er), .int .u8 117] W fun e w' => e = .returned (.bool true) ∧ Below W.heap.size W w'))
    (Cy : Aside0 (∀ W, Calls Tryd.prog 27 #[.agg (evL 4 wk 0 hn hg nn ng t a u y er), .int .u8 121] W fun e w' => e = .returned (.bool false) ∧ Below W.heap.size W w'))
    (Ce : Aside0 (∀ W, Calls Tryd.prog 27 #[.agg (evL 4 wk 0 hn hg nn ng t a u y er), .int .u8 101] W fun e w' => e = .returned (.bool false) ∧ Below W.heap.size W w'))
    (Nwk : Aside0 (∀ W, Calls Tryd.prog 26 #[.int .i64 wk] W fun e w' => e = .returned (.string (numS wk)) ∧ Below W.heap.size W w'))
    (Nt : Aside0 (∀ W, Calls Tryd.prog 26 #[.int .i64 t] W fun e w' => e = .returned (.string (numS t)) ∧ Below W.heap.size W w'))
    (Nu : Aside0 (∀ W, Calls Tryd.prog 26 #[.int .i64 u] W fun e w' => e = .returned (.string (numS u)) ∧ Below W.heap.size W w'))
    (Nhn : Aside0 (∀ W, Calls Tryd.prog 28 #[.agg #[.int .i64 hn, .int .i64 hg]] W fun e w' => e = .returned (.string (hanS hn hg)) ∧ Below W.heap.size W w'))
    (w : World) : Calls Tryd.prog 12 #[.agg (evL 4 wk 0 hn hg nn ng t a u y er)] w fun e w' => e = .returned (.string ((⟨#[102, 105, 114, 101]⟩ : ByteArray) ++ (⟨#[32]⟩ : ByteArray) ++ numS wk ++ (⟨#[32]⟩ : ByteArray) ++ hanS hn hg ++ (⟨#[32]⟩ : ByteArray) ++ numS t ++ (⟨#[32]⟩ : ByteArray) ++ numS u)) ∧ Below w.heap.size w w' := by
  have hu := Tryd.underlying25
  have hu2 := Tryd.underlying23
  have HT := Aside0.mk (One.start w (.cells (evL 4 wk 0 hn hg nn ng t a u y er) 25))
  go_enter Tryd.func12, Tryd.ntmps12
  go_wp2_with (first | (go_at_call 10; (with_reducible refine (CR.out _).mono ?_); rintro e w1 ⟨rfl, hb⟩; have T1 := Aside0.mk (One.step (by first | exact HT.out | exact HT.out.alloc _ | exact (HT.out.alloc _).alloc _) hb); clear HT hb; (try clear hc hca); have HT := T1; clear T1; have hc := fun i => HT.out.cell i; have hca := fun o i => (HT.out.alloc o).cell i) | (go_at_call 27; (first | (with_reducible refine (Ch.out _).mono ?_) | (with_reducible refine (Cn.out _).mono ?_) | (with_reducible refine (Ct.out _).mono ?_) | (with_reducible refine (Ca.out _).mono ?_) | (with_reducible refine (Cu.out _).mono ?_) | (with_reducible refine (Cy.out _).mono ?_) | (with_reducible refine (Ce.out _).mono ?_)); rintro e w1 ⟨rfl, hb⟩; have T1 := Aside0.mk (One.step (by first | exact HT.out | exact HT.out.alloc _ | exact (HT.out.alloc _).alloc _) hb); clear HT hb; (try clear hc hca); have HT := T1; clear T1; have hc := fun i => HT.out.cell i; have hca := fun o i => (HT.out.alloc o).cell i) | (go_at_call 26; (first | (with_reducible refine (Nwk.out _).mono ?_) | (with_reducible refine (Nt.out _).mono ?_) | (with_reducible refine (Nu.out _).mono ?_)); rintro e w1 ⟨rfl, hb⟩; have T1 := Aside0.mk (One.step (by first | exact HT.out | exact HT.out.alloc _ | exact (HT.out.alloc _).alloc _) hb); clear HT hb; (try clear hc hca); have HT := T1; clear T1; have hc := fun i => HT.out.cell i; have hca := fun o i => (HT.out.alloc o).cell i) | (go_at_call 28; (first | (with_reducible refine (Nhn.out _).mono ?_)); rintro e w1 ⟨rfl, hb⟩; have T1 := Aside0.mk (One.step (by first | exact HT.out | exact HT.out.alloc _ | exact (HT.out.alloc _).alloc _) hb); clear HT hb; (try clear hc hca); have HT := T1; clear T1; have hc := fun i => HT.out.cell i; have hca := fun o i => (HT.out.alloc o).cell i))
  all_goals
    go_ret
    exact ⟨rfl, by first | exact HT.out.below | exact (HT.out.alloc _).below⟩

set_option maxHeartbeats 4000000 in
set_option maxRecDepth 100000 in
theorem rline_2_3 (wk hn hg nn ng t a u : Int) (y : Bool) (er : Int) (zwk : (numS wk).size ≤ 21) (zt : (numS t).size ≤ 21) (zhn : (hanS hn hg).size ≤ 43)
    (CR : Aside0 (∀ W, Calls Tryd.prog 10 #[.agg (evL 2 wk 3 hn hg nn ng t a u y er)] W fun e w' => e = .returned (.bool true) ∧ Below W.heap.size W w'))
    (Ch : Aside0 (∀ W, Calls Tryd.prog 27 #[.agg (evL 2 wk 3 hn hg nn ng t a u y er), .int .u8 104] W fun e w' => e = .returned (.bool true) ∧ Below W.heap.size W w'))
    (Cn : Aside0 (∀ W, Calls Tryd.prog 27 #[.agg (evL 2 wk 3 hn hg nn ng t a u y er), .int .u8 110] W fun e w' => e = .returned (.bool false) ∧ Below W.heap.size W w'))
    (Ct : Aside0 (∀ W, Calls Tryd.prog 27 #[.agg (evL 2 wk 3 hn hg nn ng t a u y er), .int .u8 116] W fun e w' => e = .returned (.bool true) ∧ Below W.heap.size W w'))
    (Ca : Aside0 (∀ W, Calls Tryd.prog 27 #[.agg (evL 2 wk 3 hn hg nn ng t a u y er), .int .u8 97] W fun e w' => e = .returned (.bool false) ∧ Below W.heap.size W w'))
    (Cu : Aside0 (∀ W, Calls Tryd.prog 27 #[.agg (evL 2 wk 3 hn hg nn ng t a u y er), .int .u8 117] W fun e w' => e = .returned (.bool false) ∧ Below W.heap.size W w'))
    (Cy : Aside0 (∀ W, Calls Tryd.prog 27 #[.agg (evL 2 wk 3 hn hg nn ng t a u y er), .int .u8 121] W fun e w' => e = .returned (.bool false) ∧ Below W.heap.size W w'))
    (Ce : Aside0 (∀ W, Calls Tryd.prog 27 #[.agg (evL 2 wk 3 hn hg nn ng t a u y er), .int .u8 101] W fun e w' => e = .returned (.bool false) ∧ Below W.heap.size W w'))
    (Nwk : Aside0 (∀ W, Calls Tryd.prog 26 #[.int .i64 wk] W fun e w' => e = .returned (.string (numS wk)) ∧ Below W.heap.size W w'))
    (Nt : Aside0 (∀ W, Calls Tryd.prog 26 #[.int .i64 t] W fun e w' => e = .returned (.string (numS t)) ∧ Below W.heap.size W w'))
    (Nhn : Aside0 (∀ W, Calls Tryd.prog 28 #[.agg #[.int .i64 hn, .int .i64 hg]] W fun e w' => e = .returned (.string (hanS hn hg)) ∧ Below W.heap.size W w'))
    (w : World) : Calls Tryd.prog 12 #[.agg (evL 2 wk 3 hn hg nn ng t a u y er)] w fun e w' => e = .returned (.string ((⟨#[105, 110, 118, 111, 107, 101]⟩ : ByteArray) ++ (⟨#[32]⟩ : ByteArray) ++ numS wk ++ (⟨#[32]⟩ : ByteArray) ++ (⟨#[114, 101, 97, 114, 109]⟩ : ByteArray) ++ (⟨#[32]⟩ : ByteArray) ++ hanS hn hg ++ (⟨#[32]⟩ : ByteArray) ++ numS t)) ∧ Below w.heap.size w w' := by
  have hu := Tryd.underlying25
  have hu2 := Tryd.underlying23
  have HT := Aside0.mk (One.start w (.cells (evL 2 wk 3 hn hg nn ng t a u y er) 25))
  go_enter Tryd.func12, Tryd.ntmps12
  go_wp2_with (first | (go_at_call 10; (with_reducible refine (CR.out _).mono ?_); rintro e w1 ⟨rfl, hb⟩; have T1 := Aside0.mk (One.step (by first | exact HT.out | exact HT.out.alloc _ | exact (HT.out.alloc _).alloc _) hb); clear HT hb; (try clear hc hca); have HT := T1; clear T1; have hc := fun i => HT.out.cell i; have hca := fun o i => (HT.out.alloc o).cell i) | (go_at_call 27; (first | (with_reducible refine (Ch.out _).mono ?_) | (with_reducible refine (Cn.out _).mono ?_) | (with_reducible refine (Ct.out _).mono ?_) | (with_reducible refine (Ca.out _).mono ?_) | (with_reducible refine (Cu.out _).mono ?_) | (with_reducible refine (Cy.out _).mono ?_) | (with_reducible refine (Ce.out _).mono ?_)); rintro e w1 ⟨rfl, hb⟩; have T1 := Aside0.mk (One.step (by first | exact HT.out | exact HT.out.alloc _ | exact (HT.out.alloc _).alloc _) hb); clear HT hb; (try clear hc hca); have HT := T1; clear T1; have hc := fun i => HT.out.cell i; have hca := fun o i => (HT.out.alloc o).cell i) | (go_at_call 26; (first | (with_reducible refine (Nwk.out _).mono ?_) | (with_reducible refine (Nt.out _).mono ?_)); rintro e w1 ⟨rfl, hb⟩; have T1 := Aside0.mk (One.step (by first | exact HT.out | exact HT.out.alloc _ | exact (HT.out.alloc _).alloc _) hb); clear HT hb; (try clear hc hca); have HT := T1; clear T1; have hc := fun i => HT.out.cell i; have hca := fun o i => (HT.out.alloc o).cell i) | (go_at_call 28; (first | (with_reducible refine (Nhn.out _).mono ?_)); rintro e w1 ⟨rfl, hb⟩; have T1 := Aside0.mk (One.step (by first | exact HT.out | exact HT.out.alloc _ | exact (HT.out.alloc _).alloc _) hb); clear HT hb; (try clear hc hca); have HT := T1; clear T1; have hc := fun i => HT.out.cell i; have hca := fun o i => (HT.out.alloc o).cell i))
  all_goals
    go_ret
    exact ⟨rfl, by first | exact HT.out.below | exact (HT.out.alloc _).below⟩

set_option maxHeartbeats 4000000 in
set_option maxRecDepth 100000 in
theorem rline_2_6 (wk hn hg nn ng t a u : Int) (y : Bool) (er : Int) (zwk : (numS wk).size ≤ 21)
    (CR : Aside0 (∀ W, Calls Tryd.prog 10 #[.agg (evL 2 wk 6 hn hg nn ng t a u y er)] W fun e w' => e = .returned (.bool true) ∧ Below W.heap.size W w'))
    (Ch : Aside0 (∀ W, Calls Tryd.prog 27 #[.agg (evL 2 wk 6 hn hg nn ng t a u y er), .int .u8 104] W fun e w' => e = .returned (.bool false) ∧ Below W.heap.size W w'))
    (Cn : Aside0 (∀ W, Calls Tryd.prog 27 #[.agg (evL 2 wk 6 hn hg nn ng t a u y er), .int .u8 110] W fun e w' => e = .returned (.bool false) ∧ Below W.heap.size W w'))
    (Ct : Aside0 (∀ W, Calls Tryd.prog 27 #[.agg (evL 2 wk 6 hn hg nn ng t a u y er), .int .u8 116] W fun e w' => e = .returned (.bool false) ∧ Below W.heap.size W w'))
    (Ca : Aside0 (∀ W, Calls Tryd.prog 27 #[.agg (evL 2 wk 6 hn hg nn ng t a u y er), .int .u8 97] W fun e w' => e = .returned (.bool false) ∧ Below W.heap.size W w'))
    (Cu : Aside0 (∀ W, Calls Tryd.prog 27 #[.agg (evL 2 wk 6 hn hg nn ng t a u y er), .int .u8 117] W fun e w' => e = .returned (.bool false) ∧ Below W.heap.size W w'))
    (Cy : Aside0 (∀ W, Calls Tryd.prog 27 #[.agg (evL 2 wk 6 hn hg nn ng t a u y er), .int .u8 121] W fun e w' => e = .returned (.bool false) ∧ Below W.heap.size W w'))
    (Ce : Aside0 (∀ W, Calls Tryd.prog 27 #[.agg (evL 2 wk 6 hn hg nn ng t a u y er), .int .u8 101] W fun e w' => e = .returned (.bool false) ∧ Below W.heap.size W w'))
    (Nwk : Aside0 (∀ W, Calls Tryd.prog 26 #[.int .i64 wk] W fun e w' => e = .returned (.string (numS wk)) ∧ Below W.heap.size W w'))
    (w : World) : Calls Tryd.prog 12 #[.agg (evL 2 wk 6 hn hg nn ng t a u y er)] w fun e w' => e = .returned (.string ((⟨#[105, 110, 118, 111, 107, 101]⟩ : ByteArray) ++ (⟨#[32]⟩ : ByteArray) ++ numS wk ++ (⟨#[32]⟩ : ByteArray) ++ (⟨#[110, 101, 120, 116]⟩ : ByteArray))) ∧ Below w.heap.size w w' := by
  have hu := Tryd.underlying25
  have hu2 := Tryd.underlying23
  have HT := Aside0.mk (One.start w (.cells (evL 2 wk 6 hn hg nn ng t a u y er) 25))
  go_enter Tryd.func12, Tryd.ntmps12
  go_wp2_with (first | (go_at_call 10; (with_reducible refine (CR.out _).mono ?_); rintro e w1 ⟨rfl, hb⟩; have T1 := Aside0.mk (One.step (by first | exact HT.out | exact HT.out.alloc _ | exact (HT.out.alloc _).alloc _) hb); clear HT hb; (try clear hc hca); have HT := T1; clear T1; have hc := fun i => HT.out.cell i; have hca := fun o i => (HT.out.alloc o).cell i) | (go_at_call 27; (first | (with_reducible refine (Ch.out _).mono ?_) | (with_reducible refine (Cn.out _).mono ?_) | (with_reducible refine (Ct.out _).mono ?_) | (with_reducible refine (Ca.out _).mono ?_) | (with_reducible refine (Cu.out _).mono ?_) | (with_reducible refine (Cy.out _).mono ?_) | (with_reducible refine (Ce.out _).mono ?_)); rintro e w1 ⟨rfl, hb⟩; have T1 := Aside0.mk (One.step (by first | exact HT.out | exact HT.out.alloc _ | exact (HT.out.alloc _).alloc _) hb); clear HT hb; (try clear hc hca); have HT := T1; clear T1; have hc := fun i => HT.out.cell i; have hca := fun o i => (HT.out.alloc o).cell i) | (go_at_call 26; (first | (with_reducible refine (Nwk.out _).mono ?_)); rintro e w1 ⟨rfl, hb⟩; have T1 := Aside0.mk (One.step (by first | exact HT.out | exact HT.out.alloc _ | exact (HT.out.alloc _).alloc _) hb); clear HT hb; (try clear hc hca); have HT := T1; clear T1; have hc := fun i => HT.out.cell i; have hca := fun o i => (HT.out.alloc o).cell i))
  all_goals
    go_ret
    exact ⟨rfl, by first | exact HT.out.below | exact (HT.out.alloc _).below⟩

set_option maxHeartbeats 4000000 in
set_option maxRecDepth 100000 in
theorem rline_3_1_no (wk hn hg nn ng t a u : Int) (y : Bool) (er : Int) (zwk : (numS wk).size ≤ 21) (zer : (numS er).size ≤ 21)
    (CR : Aside0 (∀ W, Calls Tryd.prog 10 #[.agg (evL 3 wk 1 hn hg nn ng t a u y er)] W fun e w' => e = .returned (.bool true) ∧ Below W.heap.size W w'))
    (Ch : Aside0 (∀ W, Calls Tryd.prog 27 #[.agg (evL 3 wk 1 hn hg nn ng t a u y er), .int .u8 104] W fun e w' => e = .returned (.bool false) ∧ Below W.heap.size W w'))
    (Cn : Aside0 (∀ W, Calls Tryd.prog 27 #[.agg (evL 3 wk 1 hn hg nn ng t a u y er), .int .u8 110] W fun e w' => e = .returned (.bool false) ∧ Below W.heap.size W w'))
    (Ct : Aside0 (∀ W, Calls Tryd.prog 27 #[.agg (evL 3 wk 1 hn hg nn ng t a u y er), .int .u8 116] W fun e w' => e = .returned (.bool false) ∧ Below W.heap.size W w'))
    (Ca : Aside0 (∀ W, Calls Tryd.prog 27 #[.agg (evL 3 wk 1 hn hg nn ng t a u y er), .int .u8 97] W fun e w' => e = .returned (.bool false) ∧ Below W.heap.size W w'))
    (Cu : Aside0 (∀ W, Calls Tryd.prog 27 #[.agg (evL 3 wk 1 hn hg nn ng t a u y er), .int .u8 117] W fun e w' => e = .returned (.bool false) ∧ Below W.heap.size W w'))
    (Cy : Aside0 (∀ W, Calls Tryd.prog 27 #[.agg (evL 3 wk 1 hn hg nn ng t a u y er), .int .u8 121] W fun e w' => e = .returned (.bool false) ∧ Below W.heap.size W w'))
    (Ce : Aside0 (∀ W, Calls Tryd.prog 27 #[.agg (evL 3 wk 1 hn hg nn ng t a u y er), .int .u8 101] W fun e w' => e = .returned (.bool true) ∧ Below W.heap.size W w'))
    (Nwk : Aside0 (∀ W, Calls Tryd.prog 26 #[.int .i64 wk] W fun e w' => e = .returned (.string (numS wk)) ∧ Below W.heap.size W w'))
    (Ner : Aside0 (∀ W, Calls Tryd.prog 26 #[.int .i64 er] W fun e w' => e = .returned (.string (numS er)) ∧ Below W.heap.size W w'))
    (w : World) : Calls Tryd.prog 12 #[.agg (evL 3 wk 1 hn hg nn ng t a u y er)] w fun e w' => e = .returned (.string ((⟨#[112, 111, 105, 110, 116]⟩ : ByteArray) ++ (⟨#[32]⟩ : ByteArray) ++ numS wk ++ (⟨#[32]⟩ : ByteArray) ++ (⟨#[115, 116, 97, 114, 116]⟩ : ByteArray) ++ (⟨#[32]⟩ : ByteArray) ++ numS er)) ∧ Below w.heap.size w w' := by
  have hu := Tryd.underlying25
  have hu2 := Tryd.underlying23
  have HT := Aside0.mk (One.start w (.cells (evL 3 wk 1 hn hg nn ng t a u y er) 25))
  go_enter Tryd.func12, Tryd.ntmps12
  go_wp2_with (first | (go_at_call 10; (with_reducible refine (CR.out _).mono ?_); rintro e w1 ⟨rfl, hb⟩; have T1 := Aside0.mk (One.step (by first | exact HT.out | exact HT.out.alloc _ | exact (HT.out.alloc _).alloc _) hb); clear HT hb; (try clear hc hca); have HT := T1; clear T1; have hc := fun i => HT.out.cell i; have hca := fun o i => (HT.out.alloc o).cell i) | (go_at_call 27; (first | (with_reducible refine (Ch.out _).mono ?_) | (with_reducible refine (Cn.out _).mono ?_) | (with_reducible refine (Ct.out _).mono ?_) | (with_reducible refine (Ca.out _).mono ?_) | (with_reducible refine (Cu.out _).mono ?_) | (with_reducible refine (Cy.out _).mono ?_) | (with_reducible refine (Ce.out _).mono ?_)); rintro e w1 ⟨rfl, hb⟩; have T1 := Aside0.mk (One.step (by first | exact HT.out | exact HT.out.alloc _ | exact (HT.out.alloc _).alloc _) hb); clear HT hb; (try clear hc hca); have HT := T1; clear T1; have hc := fun i => HT.out.cell i; have hca := fun o i => (HT.out.alloc o).cell i) | (go_at_call 26; (first | (with_reducible refine (Nwk.out _).mono ?_) | (with_reducible refine (Ner.out _).mono ?_)); rintro e w1 ⟨rfl, hb⟩; have T1 := Aside0.mk (One.step (by first | exact HT.out | exact HT.out.alloc _ | exact (HT.out.alloc _).alloc _) hb); clear HT hb; (try clear hc hca); have HT := T1; clear T1; have hc := fun i => HT.out.cell i; have hca := fun o i => (HT.out.alloc o).cell i))
  all_goals
    go_ret
    exact ⟨rfl, by first | exact HT.out.below | exact (HT.out.alloc _).below⟩

set_option maxHeartbeats 4000000 in
set_option maxRecDepth 100000 in
theorem rline_3_3_ok (wk hn hg nn ng t a u : Int) (y : Bool) (er : Int) (zwk : (numS wk).size ≤ 21) (zt : (numS t).size ≤ 21) (zer : (numS er).size ≤ 21) (zhn : (hanS hn hg).size ≤ 43) (znn : (hanS nn ng).size ≤ 43)
    (CR : Aside0 (∀ W, Calls Tryd.prog 10 #[.agg (evL 3 wk 3 hn hg nn ng t a u y er)] W fun e w' => e = .returned (.bool true) ∧ Below W.heap.size W w'))
    (Ch : Aside0 (∀ W, Calls Tryd.prog 27 #[.agg (evL 3 wk 3 hn hg nn ng t a u y er), .int .u8 104] W fun e w' => e = .returned (.bool true) ∧ Below W.heap.size W w'))
    (Cn : Aside0 (∀ W, Calls Tryd.prog 27 #[.agg (evL 3 wk 3 hn hg nn ng t a u y er), .int .u8 110] W fun e w' => e = .returned (.bool true) ∧ Below W.heap.size W w'))
    (Ct : Aside0 (∀ W, Calls Tryd.prog 27 #[.agg (evL 3 wk 3 hn hg nn ng t a u y er), .int .u8 116] W fun e w' => e = .returned (.bool true) ∧ Below W.heap.size W w'))
    (Ca : Aside0 (∀ W, Calls Tryd.prog 27 #[.agg (evL 3 wk 3 hn hg nn ng t a u y er), .int .u8 97] W fun e w' => e = .returned (.bool false) ∧ Below W.heap.size W w'))
    (Cu : Aside0 (∀ W, Calls Tryd.prog 27 #[.agg (evL 3 wk 3 hn hg nn ng t a u y er), .int .u8 117] W fun e w' => e = .returned (.bool false) ∧ Below W.heap.size W w'))
    (Cy : Aside0 (∀ W, Calls Tryd.prog 27 #[.agg (evL 3 wk 3 hn hg nn ng t a u y er), .int .u8 121] W fun e w' => e = .returned (.bool false) ∧ Below W.heap.size W w'))
    (Ce : Aside0 (∀ W, Calls Tryd.prog 27 #[.agg (evL 3 wk 3 hn hg nn ng t a u y er), .int .u8 101] W fun e w' => e = .returned (.bool true) ∧ Below W.heap.size W w'))
    (Nwk : Aside0 (∀ W, Calls Tryd.prog 26 #[.int .i64 wk] W fun e w' => e = .returned (.string (numS wk)) ∧ Below W.heap.size W w'))
    (Nt : Aside0 (∀ W, Calls Tryd.prog 26 #[.int .i64 t] W fun e w' => e = .returned (.string (numS t)) ∧ Below W.heap.size W w'))
    (Ner : Aside0 (∀ W, Calls Tryd.prog 26 #[.int .i64 er] W fun e w' => e = .returned (.string (numS er)) ∧ Below W.heap.size W w'))
    (Nhn : Aside0 (∀ W, Calls Tryd.prog 28 #[.agg #[.int .i64 hn, .int .i64 hg]] W fun e w' => e = .returned (.string (hanS hn hg)) ∧ Below W.heap.size W w'))
    (Nnn : Aside0 (∀ W, Calls Tryd.prog 28 #[.agg #[.int .i64 nn, .int .i64 ng]] W fun e w' => e = .returned (.string (hanS nn ng)) ∧ Below W.heap.size W w'))
    (w : World) : Calls Tryd.prog 12 #[.agg (evL 3 wk 3 hn hg nn ng t a u y er)] w fun e w' => e = .returned (.string ((⟨#[112, 111, 105, 110, 116]⟩ : ByteArray) ++ (⟨#[32]⟩ : ByteArray) ++ numS wk ++ (⟨#[32]⟩ : ByteArray) ++ (⟨#[114, 101, 97, 114, 109]⟩ : ByteArray) ++ (⟨#[32]⟩ : ByteArray) ++ hanS hn hg ++ (⟨#[32]⟩ : ByteArray) ++ hanS nn ng ++ (⟨#[32]⟩ : ByteArray) ++ numS t ++ (⟨#[32]⟩ : ByteArray) ++ numS er)) ∧ Below w.heap.size w w' := by
  have hu := Tryd.underlying25
  have hu2 := Tryd.underlying23
  have HT := Aside0.mk (One.start w (.cells (evL 3 wk 3 hn hg nn ng t a u y er) 25))
  go_enter Tryd.func12, Tryd.ntmps12
  go_wp2_with (first | (go_at_call 10; (with_reducible refine (CR.out _).mono ?_); rintro e w1 ⟨rfl, hb⟩; have T1 := Aside0.mk (One.step (by first | exact HT.out | exact HT.out.alloc _ | exact (HT.out.alloc _).alloc _) hb); clear HT hb; (try clear hc hca); have HT := T1; clear T1; have hc := fun i => HT.out.cell i; have hca := fun o i => (HT.out.alloc o).cell i) | (go_at_call 27; (first | (with_reducible refine (Ch.out _).mono ?_) | (with_reducible refine (Cn.out _).mono ?_) | (with_reducible refine (Ct.out _).mono ?_) | (with_reducible refine (Ca.out _).mono ?_) | (with_reducible refine (Cu.out _).mono ?_) | (with_reducible refine (Cy.out _).mono ?_) | (with_reducible refine (Ce.out _).mono ?_)); rintro e w1 ⟨rfl, hb⟩; have T1 := Aside0.mk (One.step (by first | exact HT.out | exact HT.out.alloc _ | exact (HT.out.alloc _).alloc _) hb); clear HT hb; (try clear hc hca); have HT := T1; clear T1; have hc := fun i => HT.out.cell i; have hca := fun o i => (HT.out.alloc o).cell i) | (go_at_call 26; (first | (with_reducible refine (Nwk.out _).mono ?_) | (with_reducible refine (Nt.out _).mono ?_) | (with_reducible refine (Ner.out _).mono ?_)); rintro e w1 ⟨rfl, hb⟩; have T1 := Aside0.mk (One.step (by first | exact HT.out | exact HT.out.alloc _ | exact (HT.out.alloc _).alloc _) hb); clear HT hb; (try clear hc hca); have HT := T1; clear T1; have hc := fun i => HT.out.cell i; have hca := fun o i => (HT.out.alloc o).cell i) | (go_at_call 28; (first | (with_reducible refine (Nhn.out _).mono ?_) | (with_reducible refine (Nnn.out _).mono ?_)); rintro e w1 ⟨rfl, hb⟩; have T1 := Aside0.mk (One.step (by first | exact HT.out | exact HT.out.alloc _ | exact (HT.out.alloc _).alloc _) hb); clear HT hb; (try clear hc hca); have HT := T1; clear T1; have hc := fun i => HT.out.cell i; have hca := fun o i => (HT.out.alloc o).cell i))
  all_goals
    go_ret
    exact ⟨rfl, by first | exact HT.out.below | exact (HT.out.alloc _).below⟩

set_option maxHeartbeats 4000000 in
set_option maxRecDepth 100000 in
theorem rline_5_1_ok (wk hn hg nn ng t a u : Int) (y : Bool) (er : Int) (zwk : (numS wk).size ≤ 21) (zer : (numS er).size ≤ 21) (znn : (hanS nn ng).size ≤ 43)
    (CR : Aside0 (∀ W, Calls Tryd.prog 10 #[.agg (evL 5 wk 1 hn hg nn ng t a u y er)] W fun e w' => e = .returned (.bool true) ∧ Below W.heap.size W w'))
    (Ch : Aside0 (∀ W, Calls Tryd.prog 27 #[.agg (evL 5 wk 1 hn hg nn ng t a u y er), .int .u8 104] W fun e w' => e = .returned (.bool false) ∧ Below W.heap.size W w'))
    (Cn : Aside0 (∀ W, Calls Tryd.prog 27 #[.agg (evL 5 wk 1 hn hg nn ng t a u y er), .int .u8 110] W fun e w' => e = .returned (.bool true) ∧ Below W.heap.size W w'))
    (Ct : Aside0 (∀ W, Calls Tryd.prog 27 #[.agg (evL 5 wk 1 hn hg nn ng t a u y er), .int .u8 116] W fun e w' => e = .returned (.bool false) ∧ Below W.heap.size W w'))
    (Ca : Aside0 (∀ W, Calls Tryd.prog 27 #[.agg (evL 5 wk 1 hn hg nn ng t a u y er), .int .u8 97] W fun e w' => e = .returned (.bool false) ∧ Below W.heap.size W w'))
    (Cu : Aside0 (∀ W, Calls Tryd.prog 27 #[.agg (evL 5 wk 1 hn hg nn ng t a u y er), .int .u8 117] W fun e w' => e = .returned (.bool false) ∧ Below W.heap.size W w'))
    (Cy : Aside0 (∀ W, Calls Tryd.prog 27 #[.agg (evL 5 wk 1 hn hg nn ng t a u y er), .int .u8 121] W fun e w' => e = .returned (.bool false) ∧ Below W.heap.size W w'))
    (Ce : Aside0 (∀ W, Calls Tryd.prog 27 #[.agg (evL 5 wk 1 hn hg nn ng t a u y er), .int .u8 101] W fun e w' => e = .returned (.bool true) ∧ Below W.heap.size W w'))
    (Nwk : Aside0 (∀ W, Calls Tryd.prog 26 #[.int .i64 wk] W fun e w' => e = .returned (.string (numS wk)) ∧ Below W.heap.size W w'))
    (Ner : Aside0 (∀ W, Calls Tryd.prog 26 #[.int .i64 er] W fun e w' => e = .returned (.string (numS er)) ∧ Below W.heap.size W w'))
    (Nnn : Aside0 (∀ W, Calls Tryd.prog 28 #[.agg #[.int .i64 nn, .int .i64 ng]] W fun e w' => e = .returned (.string (hanS nn ng)) ∧ Below W.heap.size W w'))
    (w : World) : Calls Tryd.prog 12 #[.agg (evL 5 wk 1 hn hg nn ng t a u y er)] w fun e w' => e = .returned (.string ((⟨#[114, 101, 116, 117, 114, 110]⟩ : ByteArray) ++ (⟨#[32]⟩ : ByteArray) ++ numS wk ++ (⟨#[32]⟩ : ByteArray) ++ (⟨#[115, 116, 97, 114, 116]⟩ : ByteArray) ++ (⟨#[32]⟩ : ByteArray) ++ hanS nn ng ++ (⟨#[32]⟩ : ByteArray) ++ numS er)) ∧ Below w.heap.size w w' := by
  have hu := Tryd.underlying25
  have hu2 := Tryd.underlying23
  have HT := Aside0.mk (One.start w (.cells (evL 5 wk 1 hn hg nn ng t a u y er) 25))
  go_enter Tryd.func12, Tryd.ntmps12
  go_wp2_with (first | (go_at_call 10; (with_reducible refine (CR.out _).mono ?_); rintro e w1 ⟨rfl, hb⟩; have T1 := Aside0.mk (One.step (by first | exact HT.out | exact HT.out.alloc _ | exact (HT.out.alloc _).alloc _) hb); clear HT hb; (try clear hc hca); have HT := T1; clear T1; have hc := fun i => HT.out.cell i; have hca := fun o i => (HT.out.alloc o).cell i) | (go_at_call 27; (first | (with_reducible refine (Ch.out _).mono ?_) | (with_reducible refine (Cn.out _).mono ?_) | (with_reducible refine (Ct.out _).mono ?_) | (with_reducible refine (Ca.out _).mono ?_) | (with_reducible refine (Cu.out _).mono ?_) | (with_reducible refine (Cy.out _).mono ?_) | (with_reducible refine (Ce.out _).mono ?_)); rintro e w1 ⟨rfl, hb⟩; have T1 := Aside0.mk (One.step (by first | exact HT.out | exact HT.out.alloc _ | exact (HT.out.alloc _).alloc _) hb); clear HT hb; (try clear hc hca); have HT := T1; clear T1; have hc := fun i => HT.out.cell i; have hca := fun o i => (HT.out.alloc o).cell i) | (go_at_call 26; (first | (with_reducible refine (Nwk.out _).mono ?_) | (with_reducible refine (Ner.out _).mono ?_)); rintro e w1 ⟨rfl, hb⟩; have T1 := Aside0.mk (One.step (by first | exact HT.out | exact HT.out.alloc _ | exact (HT.out.alloc _).alloc _) hb); clear HT hb; (try clear hc hca); have HT := T1; clear T1; have hc := fun i => HT.out.cell i; have hca := fun o i => (HT.out.alloc o).cell i) | (go_at_call 28; (first | (with_reducible refine (Nnn.out _).mono ?_)); rintro e w1 ⟨rfl, hb⟩; have T1 := Aside0.mk (One.step (by first | exact HT.out | exact HT.out.alloc _ | exact (HT.out.alloc _).alloc _) hb); clear HT hb; (try clear hc hca); have HT := T1; clear T1; have hc := fun i => HT.out.cell i; have hca := fun o i => (HT.out.alloc o).cell i))
  all_goals
    go_ret
    exact ⟨rfl, by first | exact HT.out.below | exact (HT.out.alloc _).below⟩

set_option maxHeartbeats 4000000 in
set_option maxRecDepth 100000 in
theorem rline_5_2_not (wk hn hg nn ng t a u : Int) (y : Bool) (er : Int) (zwk : (numS wk).size ≤ 21)
    (CR : Aside0 (∀ W, Calls Tryd.prog 10 #[.agg (evL 5 wk 2 hn hg nn ng t a u false er)] W fun e w' => e = .returned (.bool true) ∧ Below W.heap.size W w'))
    (Ch : Aside0 (∀ W, Calls Tryd.prog 27 #[.agg (evL 5 wk 2 hn hg nn ng t a u false er), .int .u8 104] W fun e w' => e = .returned (.bool false) ∧ Below W.heap.size W w'))
    (Cn : Aside0 (∀ W, Calls Tryd.prog 27 #[.agg (evL 5 wk 2 hn hg nn ng t a u false er), .int .u8 110] W fun e w' => e = .returned (.bool false) ∧ Below W.heap.size W w'))
    (Ct : Aside0 (∀ W, Calls Tryd.prog 27 #[.agg (evL 5 wk 2 hn hg nn ng t a u false er), .int .u8 116] W fun e w' => e = .returned (.bool false) ∧ Below W.heap.size W w'))
    (Ca : Aside0 (∀ W, Calls Tryd.prog 27 #[.agg (evL 5 wk 2 hn hg nn ng t a u false er), .int .u8 97] W fun e w' => e = .returned (.bool false) ∧ Below W.heap.size W w'))
    (Cu : Aside0 (∀ W, Calls Tryd.prog 27 #[.agg (evL 5 wk 2 hn hg nn ng t a u false er), .int .u8 117] W fun e w' => e = .returned (.bool false) ∧ Below W.heap.size W w'))
    (Cy : Aside0 (∀ W, Calls Tryd.prog 27 #[.agg (evL 5 wk 2 hn hg nn ng t a u false er), .int .u8 121] W fun e w' => e = .returned (.bool true) ∧ Below W.heap.size W w'))
    (Ce : Aside0 (∀ W, Calls Tryd.prog 27 #[.agg (evL 5 wk 2 hn hg nn ng t a u false er), .int .u8 101] W fun e w' => e = .returned (.bool false) ∧ Below W.heap.size W w'))
    (Nwk : Aside0 (∀ W, Calls Tryd.prog 26 #[.int .i64 wk] W fun e w' => e = .returned (.string (numS wk)) ∧ Below W.heap.size W w'))
    (w : World) : Calls Tryd.prog 12 #[.agg (evL 5 wk 2 hn hg nn ng t a u false er)] w fun e w' => e = .returned (.string ((⟨#[114, 101, 116, 117, 114, 110]⟩ : ByteArray) ++ (⟨#[32]⟩ : ByteArray) ++ numS wk ++ (⟨#[32]⟩ : ByteArray) ++ (⟨#[99, 97, 110, 99, 101, 108]⟩ : ByteArray) ++ (⟨#[32, 110, 111]⟩ : ByteArray))) ∧ Below w.heap.size w w' := by
  have hu := Tryd.underlying25
  have hu2 := Tryd.underlying23
  have HT := Aside0.mk (One.start w (.cells (evL 5 wk 2 hn hg nn ng t a u false er) 25))
  go_enter Tryd.func12, Tryd.ntmps12
  go_wp2_with (first | (go_at_call 10; (with_reducible refine (CR.out _).mono ?_); rintro e w1 ⟨rfl, hb⟩; have T1 := Aside0.mk (One.step (by first | exact HT.out | exact HT.out.alloc _ | exact (HT.out.alloc _).alloc _) hb); clear HT hb; (try clear hc hca); have HT := T1; clear T1; have hc := fun i => HT.out.cell i; have hca := fun o i => (HT.out.alloc o).cell i) | (go_at_call 27; (first | (with_reducible refine (Ch.out _).mono ?_) | (with_reducible refine (Cn.out _).mono ?_) | (with_reducible refine (Ct.out _).mono ?_) | (with_reducible refine (Ca.out _).mono ?_) | (with_reducible refine (Cu.out _).mono ?_) | (with_reducible refine (Cy.out _).mono ?_) | (with_reducible refine (Ce.out _).mono ?_)); rintro e w1 ⟨rfl, hb⟩; have T1 := Aside0.mk (One.step (by first | exact HT.out | exact HT.out.alloc _ | exact (HT.out.alloc _).alloc _) hb); clear HT hb; (try clear hc hca); have HT := T1; clear T1; have hc := fun i => HT.out.cell i; have hca := fun o i => (HT.out.alloc o).cell i) | (go_at_call 26; (first | (with_reducible refine (Nwk.out _).mono ?_)); rintro e w1 ⟨rfl, hb⟩; have T1 := Aside0.mk (One.step (by first | exact HT.out | exact HT.out.alloc _ | exact (HT.out.alloc _).alloc _) hb); clear HT hb; (try clear hc hca); have HT := T1; clear T1; have hc := fun i => HT.out.cell i; have hca := fun o i => (HT.out.alloc o).cell i))
  all_goals
    go_ret
    exact ⟨rfl, by first | exact HT.out.below | exact (HT.out.alloc _).below⟩

set_option maxHeartbeats 4000000 in
set_option maxRecDepth 100000 in
theorem rline_5_4 (wk hn hg nn ng t a u : Int) (y : Bool) (er : Int) (zwk : (numS wk).size ≤ 21) (zer : (numS er).size ≤ 21)
    (CR : Aside0 (∀ W, Calls Tryd.prog 10 #[.agg (evL 5 wk 4 hn hg nn ng t a u y er)] W fun e w' => e = .returned (.bool true) ∧ Below W.heap.size W w'))
    (Ch : Aside0 (∀ W, Calls Tryd.prog 27 #[.agg (evL 5 wk 4 hn hg nn ng t a u y er), .int .u8 104] W fun e w' => e = .returned (.bool false) ∧ Below W.heap.size W w'))
    (Cn : Aside0 (∀ W, Calls Tryd.prog 27 #[.agg (evL 5 wk 4 hn hg nn ng t a u y er), .int .u8 110] W fun e w' => e = .returned (.bool false) ∧ Below W.heap.size W w'))
    (Ct : Aside0 (∀ W, Calls Tryd.prog 27 #[.agg (evL 5 wk 4 hn hg nn ng t a u y er), .int .u8 116] W fun e w' => e = .returned (.bool false) ∧ Below W.heap.size W w'))
    (Ca : Aside0 (∀ W, Calls Tryd.prog 27 #[.agg (evL 5 wk 4 hn hg nn ng t a u y er), .int .u8 97] W fun e w' => e = .returned (.bool false) ∧ Below W.heap.size W w'))
    (Cu : Aside0 (∀ W, Calls Tryd.prog 27 #[.agg (evL 5 wk 4 hn hg nn ng t a u y er), .int .u8 117] W fun e w' => e = .returned (.bool false) ∧ Below W.heap.size W w'))
    (Cy : Aside0 (∀ W, Calls Tryd.prog 27 #[.agg (evL 5 wk 4 hn hg nn ng t a u y er), .int .u8 121] W fun e w' => e = .returned (.bool false) ∧ Below W.heap.size W w'))
    (Ce : Aside0 (∀ W, Calls Tryd.prog 27 #[.agg (evL 5 wk 4 hn hg nn ng t a u y er), .int .u8 101] W fun e w' => e = .returned (.bool true) ∧ Below W.heap.size W w'))
    (Nwk : Aside0 (∀ W, Calls Tryd.prog 26 #[.int .i64 wk] W fun e w' => e = .returned (.string (numS wk)) ∧ Below W.heap.size W w'))
    (Ner : Aside0 (∀ W, Calls Tryd.prog 26 #[.int .i64 er] W fun e w' => e = .returned (.string (numS er)) ∧ Below W.heap.size W w'))
    (w : World) : Calls Tryd.prog 12 #[.agg (evL 5 wk 4 hn hg nn ng t a u y er)] w fun e w' => e = .returned (.string ((⟨#[114, 101, 116, 117, 114, 110]⟩ : ByteArray) ++ (⟨#[32]⟩ : ByteArray) ++ numS wk ++ (⟨#[32]⟩ : ByteArray) ++ (⟨#[109, 105, 103, 114, 97, 116, 101]⟩ : ByteArray) ++ (⟨#[32]⟩ : ByteArray) ++ numS er)) ∧ Below w.heap.size w w' := by
  have hu := Tryd.underlying25
  have hu2 := Tryd.underlying23
  have HT := Aside0.mk (One.start w (.cells (evL 5 wk 4 hn hg nn ng t a u y er) 25))
  go_enter Tryd.func12, Tryd.ntmps12
  go_wp2_with (first | (go_at_call 10; (with_reducible refine (CR.out _).mono ?_); rintro e w1 ⟨rfl, hb⟩; have T1 := Aside0.mk (One.step (by first | exact HT.out | exact HT.out.alloc _ | exact (HT.out.alloc _).alloc _) hb); clear HT hb; (try clear hc hca); have HT := T1; clear T1; have hc := fun i => HT.out.cell i; have hca := fun o i => (HT.out.alloc o).cell i) | (go_at_call 27; (first | (with_reducible refine (Ch.out _).mono ?_) | (with_reducible refine (Cn.out _).mono ?_) | (with_reducible refine (Ct.out _).mono ?_) | (with_reducible refine (Ca.out _).mono ?_) | (with_reducible refine (Cu.out _).mono ?_) | (with_reducible refine (Cy.out _).mono ?_) | (with_reducible refine (Ce.out _).mono ?_)); rintro e w1 ⟨rfl, hb⟩; have T1 := Aside0.mk (One.step (by first | exact HT.out | exact HT.out.alloc _ | exact (HT.out.alloc _).alloc _) hb); clear HT hb; (try clear hc hca); have HT := T1; clear T1; have hc := fun i => HT.out.cell i; have hca := fun o i => (HT.out.alloc o).cell i) | (go_at_call 26; (first | (with_reducible refine (Nwk.out _).mono ?_) | (with_reducible refine (Ner.out _).mono ?_)); rintro e w1 ⟨rfl, hb⟩; have T1 := Aside0.mk (One.step (by first | exact HT.out | exact HT.out.alloc _ | exact (HT.out.alloc _).alloc _) hb); clear HT hb; (try clear hc hca); have HT := T1; clear T1; have hc := fun i => HT.out.cell i; have hca := fun o i => (HT.out.alloc o).cell i))
  all_goals
    go_ret
    exact ⟨rfl, by first | exact HT.out.below | exact (HT.out.alloc _).below⟩

set_option maxHeartbeats 4000000 in
set_option maxRecDepth 100000 in
theorem rline_5_7 (wk hn hg nn ng t a u : Int) (y : Bool) (er : Int) (zwk : (numS wk).size ≤ 21) (zt : (numS t).size ≤ 21)
    (CR : Aside0 (∀ W, Calls Tryd.prog 10 #[.agg (evL 5 wk 7 hn hg nn ng t a u y er)] W fun e w' => e = .returned (.bool true) ∧ Below W.heap.size W w'))
    (Ch : Aside0 (∀ W, Calls Tryd.prog 27 #[.agg (evL 5 wk 7 hn hg nn ng t a u y er), .int .u8 104] W fun e w' => e = .returned (.bool false) ∧ Below W.heap.size W w'))
    (Cn : Aside0 (∀ W, Calls Tryd.prog 27 #[.agg (evL 5 wk 7 hn hg nn ng t a u y er), .int .u8 110] W fun e w' => e = .returned (.bool false) ∧ Below W.heap.size W w'))
    (Ct : Aside0 (∀ W, Calls Tryd.prog 27 #[.agg (evL 5 wk 7 hn hg nn ng t a u y er), .int .u8 116] W fun e w' => e = .returned (.bool true) ∧ Below W.heap.size W w'))
    (Ca : Aside0 (∀ W, Calls Tryd.prog 27 #[.agg (evL 5 wk 7 hn hg nn ng t a u y er), .int .u8 97] W fun e w' => e = .returned (.bool false) ∧ Below W.heap.size W w'))
    (Cu : Aside0 (∀ W, Calls Tryd.prog 27 #[.agg (evL 5 wk 7 hn hg nn ng t a u y er), .int .u8 117] W fun e w' => e = .returned (.bool false) ∧ Below W.heap.size W w'))
    (Cy : Aside0 (∀ W, Calls Tryd.prog 27 #[.agg (evL 5 wk 7 hn hg nn ng t a u y er), .int .u8 121] W fun e w' => e = .returned (.bool false) ∧ Below W.heap.size W w'))
    (Ce : Aside0 (∀ W, Calls Tryd.prog 27 #[.agg (evL 5 wk 7 hn hg nn ng t a u y er), .int .u8 101] W fun e w' => e = .returned (.bool false) ∧ Below W.heap.size W w'))
    (Nwk : Aside0 (∀ W, Calls Tryd.prog 26 #[.int .i64 wk] W fun e w' => e = .returned (.string (numS wk)) ∧ Below W.heap.size W w'))
    (Nt : Aside0 (∀ W, Calls Tryd.prog 26 #[.int .i64 t] W fun e w' => e = .returned (.string (numS t)) ∧ Below W.heap.size W w'))
    (w : World) : Calls Tryd.prog 12 #[.agg (evL 5 wk 7 hn hg nn ng t a u y er)] w fun e w' => e = .returned (.string ((⟨#[114, 101, 116, 117, 114, 110]⟩ : ByteArray) ++ (⟨#[32]⟩ : ByteArray) ++ numS wk ++ (⟨#[32]⟩ : ByteArray) ++ (⟨#[112, 101, 101, 107]⟩ : ByteArray) ++ (⟨#[32]⟩ : ByteArray) ++ numS t)) ∧ Below w.heap.size w w' := by
  have hu := Tryd.underlying25
  have hu2 := Tryd.underlying23
  have HT := Aside0.mk (One.start w (.cells (evL 5 wk 7 hn hg nn ng t a u y er) 25))
  go_enter Tryd.func12, Tryd.ntmps12
  go_wp2_with (first | (go_at_call 10; (with_reducible refine (CR.out _).mono ?_); rintro e w1 ⟨rfl, hb⟩; have T1 := Aside0.mk (One.step (by first | exact HT.out | exact HT.out.alloc _ | exact (HT.out.alloc _).alloc _) hb); clear HT hb; (try clear hc hca); have HT := T1; clear T1; have hc := fun i => HT.out.cell i; have hca := fun o i => (HT.out.alloc o).cell i) | (go_at_call 27; (first | (with_reducible refine (Ch.out _).mono ?_) | (with_reducible refine (Cn.out _).mono ?_) | (with_reducible refine (Ct.out _).mono ?_) | (with_reducible refine (Ca.out _).mono ?_) | (with_reducible refine (Cu.out _).mono ?_) | (with_reducible refine (Cy.out _).mono ?_) | (with_reducible refine (Ce.out _).mono ?_)); rintro e w1 ⟨rfl, hb⟩; have T1 := Aside0.mk (One.step (by first | exact HT.out | exact HT.out.alloc _ | exact (HT.out.alloc _).alloc _) hb); clear HT hb; (try clear hc hca); have HT := T1; clear T1; have hc := fun i => HT.out.cell i; have hca := fun o i => (HT.out.alloc o).cell i) | (go_at_call 26; (first | (with_reducible refine (Nwk.out _).mono ?_) | (with_reducible refine (Nt.out _).mono ?_)); rintro e w1 ⟨rfl, hb⟩; have T1 := Aside0.mk (One.step (by first | exact HT.out | exact HT.out.alloc _ | exact (HT.out.alloc _).alloc _) hb); clear HT hb; (try clear hc hca); have HT := T1; clear T1; have hc := fun i => HT.out.cell i; have hca := fun o i => (HT.out.alloc o).cell i))
  all_goals
    go_ret
    exact ⟨rfl, by first | exact HT.out.below | exact (HT.out.alloc _).below⟩


end Go.Proofs.YthniclbmpeklmaaDoor.Ev
