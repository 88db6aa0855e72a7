/- What is proved: which events are right, as the reference's function tells it; no conditions. -/
import Derived.Handy
import Derived.Laws.Bits
import Derived.Deep.RegionHeld3
import Derived.Test.YthniclbmpeklmaaDoorProg
import Derived.WalkKit
import Derived.KernelRfl
import Derived.Deep.LoopGhost
import Derived.Deep.QuietTactic
import Derived.BigQuiet
import Derived.Laws.CopyOwn
import Derived.Laws.Rows
import Derived.Test.YthniclbmpeklmaaDoorWWords
import Derived.Test.YthniclbmpeklmaaDoorWLast
import Derived.Test.YthniclbmpeklmaaDoorWMore
import Derived.Test.YthniclbmpeklmaaDoorMEv1
import Derived.Test.YthniclbmpeklmaaDoorMEv4
import Derived.Test.YthniclbmpeklmaaDoorMEv5
import Derived.Test.YthniclbmpeklmaaDoorMEv6
import Derived.Test.YthniclbmpeklmaaDoorMEv7
namespace Go.Proofs.YthniclbmpeklmaaDoor.Ev
open Go.RowKit Go.Proofs.YthniclbmpeklmaaDoorW.PrintWords Go.Proofs.YthniclbmpeklmaaDoorW.PrintLast Go.Proofs.YthniclbmpeklmaaDoorW.PrintMore
set_option linter.unusedVariables false
set_option linter.unusedSimpArgs false
set_option maxHeartbeats 8000000 in
set_option maxRecDepth 100000 in
theorem eline_2_2 (wk hn hg nn ng t a u : Int) (er : Int) (zwk : (numS wk).size ≤ 21) (zt : (numS t).size ≤ 21) (za : (numS a).size ≤ 21) (zu : (numS u).size ≤ 21) (zer : (numS er).size ≤ 21) (zhn : (hanS hn hg).size ≤ 43) (znn : (hanS nn ng).size ≤ 43)
    (CR : Aside0 (∀ W, Calls Tryd.prog 8 #[.agg (evL 2 wk 2 hn hg nn ng t a u false er)] W fun e w' => e = .returned (.bool true) ∧ Below W.heap.size W w'))
    (CF : Aside0 (∀ W, Calls Tryd.prog 19 #[.agg (evL 2 wk 2 hn hg nn ng t a u false er)] W fun e w' => e = .returned (.tuple #[.int .i64 1, .bool true]) ∧ Below W.heap.size W w'))
    (Nwk : Aside0 (∀ W, Tab W → Calls Tryd.prog 24 #[.int .i64 wk] W fun e w' => e = .returned (.string (numS wk)) ∧ Below W.heap.size W w'))
    (Nt : Aside0 (∀ W, Tab W → Calls Tryd.prog 24 #[.int .i64 t] W fun e w' => e = .returned (.string (numS t)) ∧ Below W.heap.size W w'))
    (Na : Aside0 (∀ W, Tab W → Calls Tryd.prog 24 #[.int .i64 a] W fun e w' => e = .returned (.string (numS a)) ∧ Below W.heap.size W w'))
    (Nu : Aside0 (∀ W, Tab W → Calls Tryd.prog 24 #[.int .i64 u] W fun e w' => e = .returned (.string (numS u)) ∧ Below W.heap.size W w'))
    (Ner : Aside0 (∀ W, Tab W → Calls Tryd.prog 24 #[.int .i64 er] W fun e w' => e = .returned (.string (numS er)) ∧ Below W.heap.size W w'))
    (Nhn : Aside0 (∀ W, Tab W → Calls Tryd.prog 25 #[.agg #[.int .i64 hn, .int .i64 hg]] W fun e w' => e = .returned (.string (hanS hn hg)) ∧ Below W.heap.size W w'))
    (Nnn : Aside0 (∀ W, Tab W → Calls Tryd.prog 25 #[.agg #[.int .i64 nn, .int .i64 ng]] W fun e w' => e = .returned (.string (hanS nn ng)) ∧ Below W.heap.size W w'))
    (w : World) (ht : Tab w) : Calls Tryd.prog 11 #[.agg (evL 2 wk 2 hn hg nn ng t a u false er)] w fun e w' => e = .returned (.string (((((⟨#[105, 110, 118, 111, 107, 101]⟩ : ByteArray) ++ ((⟨#[32]⟩ : ByteArray) ++ numS wk)) ++ ((⟨#[32]⟩ : ByteArray) ++ (⟨#[99, 97, 110, 99, 101, 108]⟩ : ByteArray))) ++ ((⟨#[32]⟩ : ByteArray) ++ hanS hn hg)))) ∧ Below w.heap.size w w' := by
  have hu := Tryd.underlying31
  have hu2 := Tryd.underlying28
  have b1 : bits BinOp.and IntKind.i64 1 1 = 1 := by decide
  have b2 : bits BinOp.and IntKind.i64 1 2 = 0 := by decide
  have b4 : bits BinOp.and IntKind.i64 1 4 = 0 := by decide
  have b8 : bits BinOp.and IntKind.i64 1 8 = 0 := by decide
  have b16 : bits BinOp.and IntKind.i64 1 16 = 0 := by decide
  have b32 : bits BinOp.and IntKind.i64 1 32 = 0 := by decide
  have b64 : bits BinOp.and IntKind.i64 1 64 = 0 := by decide
  have HT := Aside0.mk (One.start w (.cells (evL 2 wk 2 hn hg nn ng t a u false er) 31))
  have HP := Aside0.mk (Tab.alloc ht (.cells (evL 2 wk 2 hn hg nn ng t a u false er) 31))
  clear ht
  go_enter Tryd.func11, Tryd.ntmps11
  go_wp2_with (first | (go_at_call 8; (with_reducible refine (CR.out _).mono ?_); rintro e wR ⟨rfl, hb⟩; have T1 := Aside0.mk (One.step (by first | exact HT.out | exact HT.out.alloc _ | exact (HT.out.alloc _).alloc _ | exact HT.out.drew) hb); have P1 := Aside0.mk (Tab.below (by first | exact HP.out | exact HP.out.alloc _ | exact (HP.out.alloc _).alloc _ | exact Tab.drew HP.out) hb); clear HT HP hb; (try clear hc hca hcb); have HT := T1; have HP := P1; clear T1 P1; have hc := fun i => HT.out.cell i; have hca := fun o i => (HT.out.alloc o).cell i; have hcb := fun o o2 i => ((HT.out.alloc o).alloc o2).cell i) | (go_at_call 19; (with_reducible refine (CF.out _).mono ?_); rintro e w1 ⟨rfl, hb⟩; have T1 := Aside0.mk (One.step (by first | exact HT.out | exact HT.out.alloc _ | exact (HT.out.alloc _).alloc _ | exact HT.out.drew) hb); have P1 := Aside0.mk (Tab.below (by first | exact HP.out | exact HP.out.alloc _ | exact (HP.out.alloc _).alloc _ | exact Tab.drew HP.out) hb); clear HT HP hb; (try clear ho); (try clear hc hca hcb); have HT := T1; have HP := P1; clear T1 P1; have hc := fun i => HT.out.cell i; have hca := fun o i => (HT.out.alloc o).cell i; have hcb := fun o o2 i => ((HT.out.alloc o).alloc o2).cell i) | (go_at_call 24; (with_reducible refine (Nwk.out _ (by first | exact HP.out | exact HP.out.alloc _ | exact (HP.out.alloc _).alloc _ | exact Tab.drew HP.out)).mono ?_); rintro e w1 ⟨rfl, hb⟩; have ho := fun i => hb.cell (p := ⟨wR.heap.size + 1, i, none⟩) (by simp); have T1 := Aside0.mk (One.step (by first | exact HT.out | exact HT.out.alloc _ | exact (HT.out.alloc _).alloc _ | exact HT.out.drew) hb); have P1 := Aside0.mk (Tab.below (by first | exact HP.out | exact HP.out.alloc _ | exact (HP.out.alloc _).alloc _ | exact Tab.drew HP.out) hb); clear HT HP hb; (try clear hc hca hcb); have HT := T1; have HP := P1; clear T1 P1; have hc := fun i => HT.out.cell i; have hca := fun o i => (HT.out.alloc o).cell i; have hcb := fun o o2 i => ((HT.out.alloc o).alloc o2).cell i))
  go_region_held3 (fun w' => ∀ i, w'.cell? ⟨w.heap.size, i, none⟩ = (evL 2 wk 2 hn hg nn ng t a u false er)[i]?) ((intro i; first | exact HT.out.cell i | exact (HT.out.alloc _).cell i)) (first | (go_at_call 25; (first | (with_reducible refine (Nhn.out _ (by first | exact HP.out | exact HP.out.alloc _ | exact (HP.out.alloc _).alloc _ | exact Tab.drew HP.out)).mono ?_) | (with_reducible refine (Nnn.out _ (by first | exact HP.out | exact HP.out.alloc _ | exact (HP.out.alloc _).alloc _ | exact Tab.drew HP.out)).mono ?_)); rintro e w1 ⟨rfl, hb⟩; have T1 := Aside0.mk (One.step (by first | exact HT.out | exact HT.out.alloc _ | exact (HT.out.alloc _).alloc _ | exact HT.out.drew) hb); have P1 := Aside0.mk (Tab.below (by first | exact HP.out | exact HP.out.alloc _ | exact (HP.out.alloc _).alloc _ | exact Tab.drew HP.out) hb); clear HT HP hb; (try clear hc hca hcb); have HT := T1; have HP := P1; clear T1 P1; have hc := fun i => HT.out.cell i; have hca := fun o i => (HT.out.alloc o).cell i; have hcb := fun o o2 i => ((HT.out.alloc o).alloc o2).cell i) | (go_at_call 24; (first | (with_reducible refine (Nwk.out _ (by first | exact HP.out | exact HP.out.alloc _ | exact (HP.out.alloc _).alloc _ | exact Tab.drew HP.out)).mono ?_) | (with_reducible refine (Nt.out _ (by first | exact HP.out | exact HP.out.alloc _ | exact (HP.out.alloc _).alloc _ | exact Tab.drew HP.out)).mono ?_) | (with_reducible refine (Na.out _ (by first | exact HP.out | exact HP.out.alloc _ | exact (HP.out.alloc _).alloc _ | exact Tab.drew HP.out)).mono ?_) | (with_reducible refine (Nu.out _ (by first | exact HP.out | exact HP.out.alloc _ | exact (HP.out.alloc _).alloc _ | exact Tab.drew HP.out)).mono ?_) | (with_reducible refine (Ner.out _ (by first | exact HP.out | exact HP.out.alloc _ | exact (HP.out.alloc _).alloc _ | exact Tab.drew HP.out)).mono ?_)); rintro e w1 ⟨rfl, hb⟩; have T1 := Aside0.mk (One.step (by first | exact HT.out | exact HT.out.alloc _ | exact (HT.out.alloc _).alloc _ | exact HT.out.drew) hb); have P1 := Aside0.mk (Tab.below (by first | exact HP.out | exact HP.out.alloc _ | exact (HP.out.alloc _).alloc _ | exact Tab.drew HP.out) hb); clear HT HP hb; (try clear hc hca hcb); have HT := T1; have HP := P1; clear T1 P1; have hc := fun i => HT.out.cell i; have hca := fun o i => (HT.out.alloc o).cell i; have hcb := fun o o2 i => ((HT.out.alloc o).alloc o2).cell i))
  all_goals
    go_wp2
    go_rounds 8
    refine bodyPost_ret (v := .string (((((⟨#[105, 110, 118, 111, 107, 101]⟩ : ByteArray) ++ ((⟨#[32]⟩ : ByteArray) ++ numS wk)) ++ ((⟨#[32]⟩ : ByteArray) ++ (⟨#[99, 97, 110, 99, 101, 108]⟩ : ByteArray))) ++ ((⟨#[32]⟩ : ByteArray) ++ hanS hn hg)))) (by simp [results, Tryd.results11, go_sem]) rfl ⟨rfl, ?_⟩
    first | exact HT.out.below | exact (HT.out.alloc _).below | exact ((HT.out.alloc _).alloc _).below

set_option maxHeartbeats 8000000 in
set_option maxRecDepth 100000 in
theorem eline_2_6 (wk hn hg nn ng t a u : Int) (er : Int) (zwk : (numS wk).size ≤ 21) (zt : (numS t).size ≤ 21) (za : (numS a).size ≤ 21) (zu : (numS u).size ≤ 21) (zer : (numS er).size ≤ 21) (zhn : (hanS hn hg).size ≤ 43) (znn : (hanS nn ng).size ≤ 43)
    (CR : Aside0 (∀ W, Calls Tryd.prog 8 #[.agg (evL 2 wk 6 hn hg nn ng t a u false er)] W fun e w' => e = .returned (.bool true) ∧ Below W.heap.size W w'))
    (CF : Aside0 (∀ W, Calls Tryd.prog 19 #[.agg (evL 2 wk 6 hn hg nn ng t a u false er)] W fun e w' => e = .returned (.tuple #[.int .i64 0, .bool true]) ∧ Below W.heap.size W w'))
    (Nwk : Aside0 (∀ W, Tab W → Calls Tryd.prog 24 #[.int .i64 wk] W fun e w' => e = .returned (.string (numS wk)) ∧ Below W.heap.size W w'))
    (Nt : Aside0 (∀ W, Tab W → Calls Tryd.prog 24 #[.int .i64 t] W fun e w' => e = .returned (.string (numS t)) ∧ Below W.heap.size W w'))
    (Na : Aside0 (∀ W, Tab W → Calls Tryd.prog 24 #[.int .i64 a] W fun e w' => e = .returned (.string (numS a)) ∧ Below W.heap.size W w'))
    (Nu : Aside0 (∀ W, Tab W → Calls Tryd.prog 24 #[.int .i64 u] W fun e w' => e = .returned (.string (numS u)) ∧ Below W.heap.size W w'))
    (Ner : Aside0 (∀ W, Tab W → Calls Tryd.prog 24 #[.int .i64 er] W fun e w' => e = .returned (.string (numS er)) ∧ Below W.heap.size W w'))
    (Nhn : Aside0 (∀ W, Tab W → Calls Tryd.prog 25 #[.agg #[.int .i64 hn, .int .i64 hg]] W fun e w' => e = .returned (.string (hanS hn hg)) ∧ Below W.heap.size W w'))
    (Nnn : Aside0 (∀ W, Tab W → Calls Tryd.prog 25 #[.agg #[.int .i64 nn, .int .i64 ng]] W fun e w' => e = .returned (.string (hanS nn ng)) ∧ Below W.heap.size W w'))
    (w : World) (ht : Tab w) : Calls Tryd.prog 11 #[.agg (evL 2 wk 6 hn hg nn ng t a u false er)] w fun e w' => e = .returned (.string ((((⟨#[105, 110, 118, 111, 107, 101]⟩ : ByteArray) ++ ((⟨#[32]⟩ : ByteArray) ++ numS wk)) ++ ((⟨#[32]⟩ : ByteArray) ++ (⟨#[110, 101, 120, 116]⟩ : ByteArray))))) ∧ Below w.heap.size w w' := by
  have hu := Tryd.underlying31
  have hu2 := Tryd.underlying28
  have b1 : bits BinOp.and IntKind.i64 0 1 = 0 := by decide
  have b2 : bits BinOp.and IntKind.i64 0 2 = 0 := by decide
  have b4 : bits BinOp.and IntKind.i64 0 4 = 0 := by decide
  have b8 : bits BinOp.and IntKind.i64 0 8 = 0 := by decide
  have b16 : bits BinOp.and IntKind.i64 0 16 = 0 := by decide
  have b32 : bits BinOp.and IntKind.i64 0 32 = 0 := by decide
  have b64 : bits BinOp.and IntKind.i64 0 64 = 0 := by decide
  have HT := Aside0.mk (One.start w (.cells (evL 2 wk 6 hn hg nn ng t a u false er) 31))
  have HP := Aside0.mk (Tab.alloc ht (.cells (evL 2 wk 6 hn hg nn ng t a u false er) 31))
  clear ht
  go_enter Tryd.func11, Tryd.ntmps11
  go_wp2_with (first | (go_at_call 8; (with_reducible refine (CR.out _).mono ?_); rintro e wR ⟨rfl, hb⟩; have T1 := Aside0.mk (One.step (by first | exact HT.out | exact HT.out.alloc _ | exact (HT.out.alloc _).alloc _ | exact HT.out.drew) hb); have P1 := Aside0.mk (Tab.below (by first | exact HP.out | exact HP.out.alloc _ | exact (HP.out.alloc _).alloc _ | exact Tab.drew HP.out) hb); clear HT HP hb; (try clear hc hca hcb); have HT := T1; have HP := P1; clear T1 P1; have hc := fun i => HT.out.cell i; have hca := fun o i => (HT.out.alloc o).cell i; have hcb := fun o o2 i => ((HT.out.alloc o).alloc o2).cell i) | (go_at_call 19; (with_reducible refine (CF.out _).mono ?_); rintro e w1 ⟨rfl, hb⟩; have T1 := Aside0.mk (One.step (by first | exact HT.out | exact HT.out.alloc _ | exact (HT.out.alloc _).alloc _ | exact HT.out.drew) hb); have P1 := Aside0.mk (Tab.below (by first | exact HP.out | exact HP.out.alloc _ | exact (HP.out.alloc _).alloc _ | exact Tab.drew HP.out) hb); clear HT HP hb; (try clear ho); (try clear hc hca hcb); have HT := T1; have HP := P1; clear T1 P1; have hc := fun i => HT.out.cell i; have hca := fun o i => (HT.out.alloc o).cell i; have hcb := fun o o2 i => ((HT.out.alloc o).alloc o2).cell i) | (go_at_call 24; (with_reducible refine (Nwk.out _ (by first | exact HP.out | exact HP.out.alloc _ | exact (HP.out.alloc _).alloc _ | exact Tab.drew HP.out)).mono ?_); rintro e w1 ⟨rfl, hb⟩; have ho := fun i => hb.cell (p := ⟨wR.heap.size + 1, i, none⟩) (by simp); have T1 := Aside0.mk (One.step (by first | exact HT.out | exact HT.out.alloc _ | exact (HT.out.alloc _).alloc _ | exact HT.out.drew) hb); have P1 := Aside0.mk (Tab.below (by first | exact HP.out | exact HP.out.alloc _ | exact (HP.out.alloc _).alloc _ | exact Tab.drew HP.out) hb); clear HT HP hb; (try clear hc hca hcb); have HT := T1; have HP := P1; clear T1 P1; have hc := fun i => HT.out.cell i; have hca := fun o i => (HT.out.alloc o).cell i; have hcb := fun o o2 i => ((HT.out.alloc o).alloc o2).cell i))
  go_region_held3 (fun w' => ∀ i, w'.cell? ⟨w.heap.size, i, none⟩ = (evL 2 wk 6 hn hg nn ng t a u false er)[i]?) ((intro i; first | exact HT.out.cell i | exact (HT.out.alloc _).cell i)) (first | (go_at_call 25; (first | (with_reducible refine (Nhn.out _ (by first | exact HP.out | exact HP.out.alloc _ | exact (HP.out.alloc _).alloc _ | exact Tab.drew HP.out)).mono ?_) | (with_reducible refine (Nnn.out _ (by first | exact HP.out | exact HP.out.alloc _ | exact (HP.out.alloc _).alloc _ | exact Tab.drew HP.out)).mono ?_)); rintro e w1 ⟨rfl, hb⟩; have T1 := Aside0.mk (One.step (by first | exact HT.out | exact HT.out.alloc _ | exact (HT.out.alloc _).alloc _ | exact HT.out.drew) hb); have P1 := Aside0.mk (Tab.below (by first | exact HP.out | exact HP.out.alloc _ | exact (HP.out.alloc _).alloc _ | exact Tab.drew HP.out) hb); clear HT HP hb; (try clear hc hca hcb); have HT := T1; have HP := P1; clear T1 P1; have hc := fun i => HT.out.cell i; have hca := fun o i => (HT.out.alloc o).cell i; have hcb := fun o o2 i => ((HT.out.alloc o).alloc o2).cell i) | (go_at_call 24; (first | (with_reducible refine (Nwk.out _ (by first | exact HP.out | exact HP.out.alloc _ | exact (HP.out.alloc _).alloc _ | exact Tab.drew HP.out)).mono ?_) | (with_reducible refine (Nt.out _ (by first | exact HP.out | exact HP.out.alloc _ | exact (HP.out.alloc _).alloc _ | exact Tab.drew HP.out)).mono ?_) | (with_reducible refine (Na.out _ (by first | exact HP.out | exact HP.out.alloc _ | exact (HP.out.alloc _).alloc _ | exact Tab.drew HP.out)).mono ?_) | (with_reducible refine (Nu.out _ (by first | exact HP.out | exact HP.out.alloc _ | exact (HP.out.alloc _).alloc _ | exact Tab.drew HP.out)).mono ?_) | (with_reducible refine (Ner.out _ (by first | exact HP.out | exact HP.out.alloc _ | exact (HP.out.alloc _).alloc _ | exact Tab.drew HP.out)).mono ?_)); rintro e w1 ⟨rfl, hb⟩; have T1 := Aside0.mk (One.step (by first | exact HT.out | exact HT.out.alloc _ | exact (HT.out.alloc _).alloc _ | exact HT.out.drew) hb); have P1 := Aside0.mk (Tab.below (by first | exact HP.out | exact HP.out.alloc _ | exact (HP.out.alloc _).alloc _ | exact Tab.drew HP.out) hb); clear HT HP hb; (try clear hc hca hcb); have HT := T1; have HP := P1; clear T1 P1; have hc := fun i => HT.out.cell i; have hca := fun o i => (HT.out.alloc o).cell i; have hcb := fun o o2 i => ((HT.out.alloc o).alloc o2).cell i))
  all_goals
    go_wp2
    go_rounds 8
    refine bodyPost_ret (v := .string ((((⟨#[105, 110, 118, 111, 107, 101]⟩ : ByteArray) ++ ((⟨#[32]⟩ : ByteArray) ++ numS wk)) ++ ((⟨#[32]⟩ : ByteArray) ++ (⟨#[110, 101, 120, 116]⟩ : ByteArray))))) (by simp [results, Tryd.results11, go_sem]) rfl ⟨rfl, ?_⟩
    first | exact HT.out.below | exact (HT.out.alloc _).below | exact ((HT.out.alloc _).alloc _).below

set_option maxHeartbeats 8000000 in
set_option maxRecDepth 100000 in
theorem eline_3_2_yes (wk hn hg nn ng t a u : Int) (er : Int) (zwk : (numS wk).size ≤ 21) (zt : (numS t).size ≤ 21) (za : (numS a).size ≤ 21) (zu : (numS u).size ≤ 21) (zer : (numS er).size ≤ 21) (zhn : (hanS hn hg).size ≤ 43) (znn : (hanS nn ng).size ≤ 43)
    (CR : Aside0 (∀ W, Calls Tryd.prog 8 #[.agg (evL 3 wk 2 hn hg nn ng t a u true er)] W fun e w' => e = .returned (.bool true) ∧ Below W.heap.size W w'))
    (CF : Aside0 (∀ W, Calls Tryd.prog 19 #[.agg (evL 3 wk 2 hn hg nn ng t a u true er)] W fun e w' => e = .returned (.tuple #[.int .i64 33, .bool true]) ∧ Below W.heap.size W w'))
    (Nwk : Aside0 (∀ W, Tab W → Calls Tryd.prog 24 #[.int .i64 wk] W fun e w' => e = .returned (.string (numS wk)) ∧ Below W.heap.size W w'))
    (Nt : Aside0 (∀ W, Tab W → Calls Tryd.prog 24 #[.int .i64 t] W fun e w' => e = .returned (.string (numS t)) ∧ Below W.heap.size W w'))
    (Na : Aside0 (∀ W, Tab W → Calls Tryd.prog 24 #[.int .i64 a] W fun e w' => e = .returned (.string (numS a)) ∧ Below W.heap.size W w'))
    (Nu : Aside0 (∀ W, Tab W → Calls Tryd.prog 24 #[.int .i64 u] W fun e w' => e = .returned (.string (numS u)) ∧ Below W.heap.size W w'))
    (Ner : Aside0 (∀ W, Tab W → Calls Tryd.prog 24 #[.int .i64 er] W fun e w' => e = .returned (.string (numS er)) ∧ Below W.heap.size W w'))
    (Nhn : Aside0 (∀ W, Tab W → Calls Tryd.prog 25 #[.agg #[.int .i64 hn, .int .i64 hg]] W fun e w' => e = .returned (.string (hanS hn hg)) ∧ Below W.heap.size W w'))
    (Nnn : Aside0 (∀ W, Tab W → Calls Tryd.prog 25 #[.agg #[.int .i64 nn, .int .i64 ng]] W fun e w' => e = .returned (.string (hanS nn ng)) ∧ Below W.heap.size W w'))
    (w : World) (ht : Tab w) : Calls Tryd.prog 11 #[.agg (evL 3 wk 2 hn hg nn ng t a u true er)] w fun e w' => e = .returned (.string ((((((⟨#[112, 111, 105, 110, 116]⟩ : ByteArray) ++ ((⟨#[32]⟩ : ByteArray) ++ numS wk)) ++ ((⟨#[32]⟩ : ByteArray) ++ (⟨#[99, 97, 110, 99, 101, 108]⟩ : ByteArray))) ++ ((⟨#[32]⟩ : ByteArray) ++ hanS hn hg)) ++ ((⟨#[32]⟩ : ByteArray) ++ (⟨#[121, 101, 115]⟩ : ByteArray))))) ∧ Below w.heap.size w w' := by
  have hu := Tryd.underlying31
  have hu2 := Tryd.underlying28
  have b1 : bits BinOp.and IntKind.i64 33 1 = 1 := by decide
  have b2 : bits BinOp.and IntKind.i64 33 2 = 0 := by decide
  have b4 : bits BinOp.and IntKind.i64 33 4 = 0 := by decide
  have b8 : bits BinOp.and IntKind.i64 33 8 = 0 := by decide
  have b16 : bits BinOp.and IntKind.i64 33 16 = 0 := by decide
  have b32 : bits BinOp.and IntKind.i64 33 32 = 32 := by decide
  have b64 : bits BinOp.and IntKind.i64 33 64 = 0 := by decide
  have HT := Aside0.mk (One.start w (.cells (evL 3 wk 2 hn hg nn ng t a u true er) 31))
  have HP := Aside0.mk (Tab.alloc ht (.cells (evL 3 wk 2 hn hg nn ng t a u true er) 31))
  clear ht
  go_enter Tryd.func11, Tryd.ntmps11
  go_wp2_with (first | (go_at_call 8; (with_reducible refine (CR.out _).mono ?_); rintro e wR ⟨rfl, hb⟩; have T1 := Aside0.mk (One.step (by first | exact HT.out | exact HT.out.alloc _ | exact (HT.out.alloc _).alloc _ | exact HT.out.drew) hb); have P1 := Aside0.mk (Tab.below (by first | exact HP.out | exact HP.out.alloc _ | exact (HP.out.alloc _).alloc _ | exact Tab.drew HP.out) hb); clear HT HP hb; (try clear hc hca hcb); have HT := T1; have HP := P1; clear T1 P1; have hc := fun i => HT.out.cell i; have hca := fun o i => (HT.out.alloc o).cell i; have hcb := fun o o2 i => ((HT.out.alloc o).alloc o2).cell i) | (go_at_call 19; (with_reducible refine (CF.out _).mono ?_); rintro e w1 ⟨rfl, hb⟩; have T1 := Aside0.mk (One.step (by first | exact HT.out | exact HT.out.alloc _ | exact (HT.out.alloc _).alloc _ | exact HT.out.drew) hb); have P1 := Aside0.mk (Tab.below (by first | exact HP.out | exact HP.out.alloc _ | exact (HP.out.alloc _).alloc _ | exact Tab.drew HP.out) hb); clear HT HP hb; (try clear ho); (try clear hc hca hcb); have HT := T1; have HP := P1; clear T1 P1; have hc := fun i => HT.out.cell i; have hca := fun o i => (HT.out.alloc o).cell i; have hcb := fun o o2 i => ((HT.out.alloc o).alloc o2).cell i) | (go_at_call 24; (with_reducible refine (Nwk.out _ (by first | exact HP.out | exact HP.out.alloc _ | exact (HP.out.alloc _).alloc _ | exact Tab.drew HP.out)).mono ?_); rintro e w1 ⟨rfl, hb⟩; have ho := fun i => hb.cell (p := ⟨wR.heap.size + 1, i, none⟩) (by simp); have T1 := Aside0.mk (One.step (by first | exact HT.out | exact HT.out.alloc _ | exact (HT.out.alloc _).alloc _ | exact HT.out.drew) hb); have P1 := Aside0.mk (Tab.below (by first | exact HP.out | exact HP.out.alloc _ | exact (HP.out.alloc _).alloc _ | exact Tab.drew HP.out) hb); clear HT HP hb; (try clear hc hca hcb); have HT := T1; have HP := P1; clear T1 P1; have hc := fun i => HT.out.cell i; have hca := fun o i => (HT.out.alloc o).cell i; have hcb := fun o o2 i => ((HT.out.alloc o).alloc o2).cell i))
  go_region_held3 (fun w' => ∀ i, w'.cell? ⟨w.heap.size, i, none⟩ = (evL 3 wk 2 hn hg nn ng t a u true er)[i]?) ((intro i; first | exact HT.out.cell i | exact (HT.out.alloc _).cell i)) (first | (go_at_call 25; (first | (with_reducible refine (Nhn.out _ (by first | exact HP.out | exact HP.out.alloc _ | exact (HP.out.alloc _).alloc _ | exact Tab.drew HP.out)).mono ?_) | (with_reducible refine (Nnn.out _ (by first | exact HP.out | exact HP.out.alloc _ | exact (HP.out.alloc _).alloc _ | exact Tab.drew HP.out)).mono ?_)); rintro e w1 ⟨rfl, hb⟩; have T1 := Aside0.mk (One.step (by first | exact HT.out | exact HT.out.alloc _ | exact (HT.out.alloc _).alloc _ | exact HT.out.drew) hb); have P1 := Aside0.mk (Tab.below (by first | exact HP.out | exact HP.out.alloc _ | exact (HP.out.alloc _).alloc _ | exact Tab.drew HP.out) hb); clear HT HP hb; (try clear hc hca hcb); have HT := T1; have HP := P1; clear T1 P1; have hc := fun i => HT.out.cell i; have hca := fun o i => (HT.out.alloc o).cell i; have hcb := fun o o2 i => ((HT.out.alloc o).alloc o2).cell i) | (go_at_call 24; (first | (with_reducible refine (Nwk.out _ (by first | exact HP.out | exact HP.out.alloc _ | exact (HP.out.alloc _).alloc _ | exact Tab.drew HP.out)).mono ?_) | (with_reducible refine (Nt.out _ (by first | exact HP.out | exact HP.out.alloc _ | exact (HP.out.alloc _).alloc _ | exact Tab.drew HP.out)).mono ?_) | (with_reducible refine (Na.out _ (by first | exact HP.out | exact HP.out.alloc _ | exact (HP.out.alloc _).alloc _ | exact Tab.drew HP.out)).mono ?_) | (with_reducible refine (Nu.out _ (by first | exact HP.out | exact HP.out.alloc _ | exact (HP.out.alloc _).alloc _ | exact Tab.drew HP.out)).mono ?_) | (with_reducible refine (Ner.out _ (by first | exact HP.out | exact HP.out.alloc _ | exact (HP.out.alloc _).alloc _ | exact Tab.drew HP.out)).mono ?_)); rintro e w1 ⟨rfl, hb⟩; have T1 := Aside0.mk (One.step (by first | exact HT.out | exact HT.out.alloc _ | exact (HT.out.alloc _).alloc _ | exact HT.out.drew) hb); have P1 := Aside0.mk (Tab.below (by first | exact HP.out | exact HP.out.alloc _ | exact (HP.out.alloc _).alloc _ | exact Tab.drew HP.out) hb); clear HT HP hb; (try clear hc hca hcb); have HT := T1; have HP := P1; clear T1 P1; have hc := fun i => HT.out.cell i; have hca := fun o i => (HT.out.alloc o).cell i; have hcb := fun o o2 i => ((HT.out.alloc o).alloc o2).cell i))
  all_goals
    go_wp2
    go_rounds 8
    refine bodyPost_ret (v := .string ((((((⟨#[112, 111, 105, 110, 116]⟩ : ByteArray) ++ ((⟨#[32]⟩ : ByteArray) ++ numS wk)) ++ ((⟨#[32]⟩ : ByteArray) ++ (⟨#[99, 97, 110, 99, 101, 108]⟩ : ByteArray))) ++ ((⟨#[32]⟩ : ByteArray) ++ hanS hn hg)) ++ ((⟨#[32]⟩ : ByteArray) ++ (⟨#[121, 101, 115]⟩ : ByteArray))))) (by simp [results, Tryd.results11, go_sem]) rfl ⟨rfl, ?_⟩
    first | exact HT.out.below | exact (HT.out.alloc _).below | exact ((HT.out.alloc _).alloc _).below

set_option maxHeartbeats 8000000 in
set_option maxRecDepth 100000 in
theorem eline_3_4 (wk hn hg nn ng t a u : Int) (er : Int) (zwk : (numS wk).size ≤ 21) (zt : (numS t).size ≤ 21) (za : (numS a).size ≤ 21) (zu : (numS u).size ≤ 21) (zer : (numS er).size ≤ 21) (zhn : (hanS hn hg).size ≤ 43) (znn : (hanS nn ng).size ≤ 43)
    (CR : Aside0 (∀ W, Calls Tryd.prog 8 #[.agg (evL 3 wk 4 hn hg nn ng t a u false er)] W fun e w' => e = .returned (.bool true) ∧ Below W.heap.size W w'))
    (CF : Aside0 (∀ W, Calls Tryd.prog 19 #[.agg (evL 3 wk 4 hn hg nn ng t a u false er)] W fun e w' => e = .returned (.tuple #[.int .i64 65, .bool true]) ∧ Below W.heap.size W w'))
    (Nwk : Aside0 (∀ W, Tab W → Calls Tryd.prog 24 #[.int .i64 wk] W fun e w' => e = .returned (.string (numS wk)) ∧ Below W.heap.size W w'))
    (Nt : Aside0 (∀ W, Tab W → Calls Tryd.prog 24 #[.int .i64 t] W fun e w' => e = .returned (.string (numS t)) ∧ Below W.heap.size W w'))
    (Na : Aside0 (∀ W, Tab W → Calls Tryd.prog 24 #[.int .i64 a] W fun e w' => e = .returned (.string (numS a)) ∧ Below W.heap.size W w'))
    (Nu : Aside0 (∀ W, Tab W → Calls Tryd.prog 24 #[.int .i64 u] W fun e w' => e = .returned (.string (numS u)) ∧ Below W.heap.size W w'))
    (Ner : Aside0 (∀ W, Tab W → Calls Tryd.prog 24 #[.int .i64 er] W fun e w' => e = .returned (.string (numS er)) ∧ Below W.heap.size W w'))
    (Nhn : Aside0 (∀ W, Tab W → Calls Tryd.prog 25 #[.agg #[.int .i64 hn, .int .i64 hg]] W fun e w' => e = .returned (.string (hanS hn hg)) ∧ Below W.heap.size W w'))
    (Nnn : Aside0 (∀ W, Tab W → Calls Tryd.prog 25 #[.agg #[.int .i64 nn, .int .i64 ng]] W fun e w' => e = .returned (.string (hanS nn ng)) ∧ Below W.heap.size W w'))
    (w : World) (ht : Tab w) : Calls Tryd.prog 11 #[.agg (evL 3 wk 4 hn hg nn ng t a u false er)] w fun e w' => e = .returned (.string ((((((⟨#[112, 111, 105, 110, 116]⟩ : ByteArray) ++ ((⟨#[32]⟩ : ByteArray) ++ numS wk)) ++ ((⟨#[32]⟩ : ByteArray) ++ (⟨#[109, 105, 103, 114, 97, 116, 101]⟩ : ByteArray))) ++ ((⟨#[32]⟩ : ByteArray) ++ hanS hn hg)) ++ ((⟨#[32]⟩ : ByteArray) ++ numS er)))) ∧ Below w.heap.size w w' := by
  have hu := Tryd.underlying31
  have hu2 := Tryd.underlying28
  have b1 : bits BinOp.and IntKind.i64 65 1 = 1 := by decide
  have b2 : bits BinOp.and IntKind.i64 65 2 = 0 := by decide
  have b4 : bits BinOp.and IntKind.i64 65 4 = 0 := by decide
  have b8 : bits BinOp.and IntKind.i64 65 8 = 0 := by decide
  have b16 : bits BinOp.and IntKind.i64 65 16 = 0 := by decide
  have b32 : bits BinOp.and IntKind.i64 65 32 = 0 := by decide
  have b64 : bits BinOp.and IntKind.i64 65 64 = 64 := by decide
  have HT := Aside0.mk (One.start w (.cells (evL 3 wk 4 hn hg nn ng t a u false er) 31))
  have HP := Aside0.mk (Tab.alloc ht (.cells (evL 3 wk 4 hn hg nn ng t a u false er) 31))
  clear ht
  go_enter Tryd.func11, Tryd.ntmps11
  go_wp2_with (first | (go_at_call 8; (with_reducible refine (CR.out _).mono ?_); rintro e wR ⟨rfl, hb⟩; have T1 := Aside0.mk (One.step (by first | exact HT.out | exact HT.out.alloc _ | exact (HT.out.alloc _).alloc _ | exact HT.out.drew) hb); have P1 := Aside0.mk (Tab.below (by first | exact HP.out | exact HP.out.alloc _ | exact (HP.out.alloc _).alloc _ | exact Tab.drew HP.out) hb); clear HT HP hb; (try clear hc hca hcb); have HT := T1; have HP := P1; clear T1 P1; have hc := fun i => HT.out.cell i; have hca := fun o i => (HT.out.alloc o).cell i; have hcb := fun o o2 i => ((HT.out.alloc o).alloc o2).cell i) | (go_at_call 19; (with_reducible refine (CF.out _).mono ?_); rintro e w1 ⟨rfl, hb⟩; have T1 := Aside0.mk (One.step (by first | exact HT.out | exact HT.out.alloc _ | exact (HT.out.alloc _).alloc _ | exact HT.out.drew) hb); have P1 := Aside0.mk (Tab.below (by first | exact HP.out | exact HP.out.alloc _ | exact (HP.out.alloc _).alloc _ | exact Tab.drew HP.out) hb); clear HT HP hb; (try clear ho); (try clear hc hca hcb); have HT := T1; have HP := P1; clear T1 P1; have hc := fun i => HT.out.cell i; have hca := fun o i => (HT.out.alloc o).cell i; have hcb := fun o o2 i => ((HT.out.alloc o).alloc o2).cell i) | (go_at_call 24; (with_reducible refine (Nwk.out _ (by first | exact HP.out | exact HP.out.alloc _ | exact (HP.out.alloc _).alloc _ | exact Tab.drew HP.out)).mono ?_); rintro e w1 ⟨rfl, hb⟩; have ho := fun i => hb.cell (p := ⟨wR.heap.size + 1, i, none⟩) (by simp); have T1 := Aside0.mk (One.step (by first | exact HT.out | exact HT.out.alloc _ | exact (HT.out.alloc _).alloc _ | exact HT.out.drew) hb); have P1 := Aside0.mk (Tab.below (by first | exact HP.out | exact HP.out.alloc _ | exact (HP.out.alloc _).alloc _ | exact Tab.drew HP.out) hb); clear HT HP hb; (try clear hc hca hcb); have HT := T1; have HP := P1; clear T1 P1; have hc := fun i => HT.out.cell i; have hca := fun o i => (HT.out.alloc o).cell i; have hcb := fun o o2 i => ((HT.out.alloc o).alloc o2).cell i))
  go_region_held3 (fun w' => ∀ i, w'.cell? ⟨w.heap.size, i, none⟩ = (evL 3 wk 4 hn hg nn ng t a u false er)[i]?) ((intro i; first | exact HT.out.cell i | exact (HT.out.alloc _).cell i)) (first | (go_at_call 25; (first | (with_reducible refine (Nhn.out _ (by first | exact HP.out | exact HP.out.alloc _ | exact (HP.out.alloc _).alloc _ | exact Tab.drew HP.out)).mono ?_) | (with_reducible refine (Nnn.out _ (by first | exact HP.out | exact HP.out.alloc _ | exact (HP.out.alloc _).alloc _ | exact Tab.drew HP.out)).mono ?_)); rintro e w1 ⟨rfl, hb⟩; have T1 := Aside0.mk (One.step (by first | exact HT.out | exact HT.out.alloc _ | exact (HT.out.alloc _).alloc _ | exact HT.out.drew) hb); have P1 := Aside0.mk (Tab.below (by first | exact HP.out | exact HP.out.alloc _ | exact (HP.out.alloc _).alloc _ | exact Tab.drew HP.out) hb); clear HT HP hb; (try clear hc hca hcb); have HT := T1; have HP := P1; clear T1 P1; have hc := fun i => HT.out.cell i; have hca := fun o i => (HT.out.alloc o).cell i; have hcb := fun o o2 i => ((HT.out.alloc o).alloc o2).cell i) | (go_at_call 24; (first | (with_reducible refine (Nwk.out _ (by first | exact HP.out | exact HP.out.alloc _ | exact (HP.out.alloc _).alloc _ | exact Tab.drew HP.out)).mono ?_) | (with_reducible refine (Nt.out _ (by first | exact HP.out | exact HP.out.alloc _ | exact (HP.out.alloc _).alloc _ | exact Tab.drew HP.out)).mono ?_) | (with_reducible refine (Na.out _ (by first | exact HP.out | exact HP.out.alloc _ | exact (HP.out.alloc _).alloc _ | exact Tab.drew HP.out)).mono ?_) | (with_reducible refine (Nu.out _ (by first | exact HP.out | exact HP.out.alloc _ | exact (HP.out.alloc _).alloc _ | exact Tab.drew HP.out)).mono ?_) | (with_reducible refine (Ner.out _ (by first | exact HP.out | exact HP.out.alloc _ | exact (HP.out.alloc _).alloc _ | exact Tab.drew HP.out)).mono ?_)); rintro e w1 ⟨rfl, hb⟩; have T1 := Aside0.mk (One.step (by first | exact HT.out | exact HT.out.alloc _ | exact (HT.out.alloc _).alloc _ | exact HT.out.drew) hb); have P1 := Aside0.mk (Tab.below (by first | exact HP.out | exact HP.out.alloc _ | exact (HP.out.alloc _).alloc _ | exact Tab.drew HP.out) hb); clear HT HP hb; (try clear hc hca hcb); have HT := T1; have HP := P1; clear T1 P1; have hc := fun i => HT.out.cell i; have hca := fun o i => (HT.out.alloc o).cell i; have hcb := fun o o2 i => ((HT.out.alloc o).alloc o2).cell i))
  all_goals
    go_wp2
    go_rounds 8
    refine bodyPost_ret (v := .string ((((((⟨#[112, 111, 105, 110, 116]⟩ : ByteArray) ++ ((⟨#[32]⟩ : ByteArray) ++ numS wk)) ++ ((⟨#[32]⟩ : ByteArray) ++ (⟨#[109, 105, 103, 114, 97, 116, 101]⟩ : ByteArray))) ++ ((⟨#[32]⟩ : ByteArray) ++ hanS hn hg)) ++ ((⟨#[32]⟩ : ByteArray) ++ numS er)))) (by simp [results, Tryd.results11, go_sem]) rfl ⟨rfl, ?_⟩
    first | exact HT.out.below | exact (HT.out.alloc _).below | exact ((HT.out.alloc _).alloc _).below

set_option maxHeartbeats 8000000 in
set_option maxRecDepth 100000 in
theorem eline_5_2_not (wk hn hg nn ng t a u : Int) (er : Int) (zwk : (numS wk).size ≤ 21) (zt : (numS t).size ≤ 21) (za : (numS a).size ≤ 21) (zu : (numS u).size ≤ 21) (zer : (numS er).size ≤ 21) (zhn : (hanS hn hg).size ≤ 43) (znn : (hanS nn ng).size ≤ 43)
    (CR : Aside0 (∀ W, Calls Tryd.prog 8 #[.agg (evL 5 wk 2 hn hg nn ng t a u false er)] W fun e w' => e = .returned (.bool true) ∧ Below W.heap.size W w'))
    (CF : Aside0 (∀ W, Calls Tryd.prog 19 #[.agg (evL 5 wk 2 hn hg nn ng t a u false er)] W fun e w' => e = .returned (.tuple #[.int .i64 32, .bool true]) ∧ Below W.heap.size W w'))
    (Nwk : Aside0 (∀ W, Tab W → Calls Tryd.prog 24 #[.int .i64 wk] W fun e w' => e = .returned (.string (numS wk)) ∧ Below W.heap.size W w'))
    (Nt : Aside0 (∀ W, Tab W → Calls Tryd.prog 24 #[.int .i64 t] W fun e w' => e = .returned (.string (numS t)) ∧ Below W.heap.size W w'))
    (Na : Aside0 (∀ W, Tab W → Calls Tryd.prog 24 #[.int .i64 a] W fun e w' => e = .returned (.string (numS a)) ∧ Below W.heap.size W w'))
    (Nu : Aside0 (∀ W, Tab W → Calls Tryd.prog 24 #[.int .i64 u] W fun e w' => e = .returned (.string (numS u)) ∧ Below W.heap.size W w'))
    (Ner : Aside0 (∀ W, Tab W → Calls Tryd.prog 24 #[.int .i64 er] W fun e w' => e = .returned (.string (numS er)) ∧ Below W.heap.size W w'))
    (Nhn : Aside0 (∀ W, Tab W → Calls Tryd.prog 25 #[.agg #[.int .i64 hn, .int .i64 hg]] W fun e w' => e = .returned (.string (hanS hn hg)) ∧ Below W.heap.size W w'))
    (Nnn : Aside0 (∀ W, Tab W → Calls Tryd.prog 25 #[.agg #[.int .i64 nn, .int .i64 ng]] W fun e w' => e = .returned (.string (hanS nn ng)) ∧ Below W.heap.size W w'))
    (w : World) (ht : Tab w) : Calls Tryd.prog 11 #[.agg (evL 5 wk 2 hn hg nn ng t a u false er)] w fun e w' => e = .returned (.string (((((⟨#[114, 101, 116, 117, 114, 110]⟩ : ByteArray) ++ ((⟨#[32]⟩ : ByteArray) ++ numS wk)) ++ ((⟨#[32]⟩ : ByteArray) ++ (⟨#[99, 97, 110, 99, 101, 108]⟩ : ByteArray))) ++ ((⟨#[32]⟩ : ByteArray) ++ (⟨#[110, 111]⟩ : ByteArray))))) ∧ Below w.heap.size w w' := by
  have hu := Tryd.underlying31
  have hu2 := Tryd.underlying28
  have b1 : bits BinOp.and IntKind.i64 32 1 = 0 := by decide
  have b2 : bits BinOp.and IntKind.i64 32 2 = 0 := by decide
  have b4 : bits BinOp.and IntKind.i64 32 4 = 0 := by decide
  have b8 : bits BinOp.and IntKind.i64 32 8 = 0 := by decide
  have b16 : bits BinOp.and IntKind.i64 32 16 = 0 := by decide
  have b32 : bits BinOp.and IntKind.i64 32 32 = 32 := by decide
  have b64 : bits BinOp.and IntKind.i64 32 64 = 0 := by decide
  have HT := Aside0.mk (One.start w (.cells (evL 5 wk 2 hn hg nn ng t a u false er) 31))
  have HP := Aside0.mk (Tab.alloc ht (.cells (evL 5 wk 2 hn hg nn ng t a u false er) 31))
  clear ht
  go_enter Tryd.func11, Tryd.ntmps11
  go_wp2_with (first | (go_at_call 8; (with_reducible refine (CR.out _).mono ?_); rintro e wR ⟨rfl, hb⟩; have T1 := Aside0.mk (One.step (by first | exact HT.out | exact HT.out.alloc _ | exact (HT.out.alloc _).alloc _ | exact HT.out.drew) hb); have P1 := Aside0.mk (Tab.below (by first | exact HP.out | exact HP.out.alloc _ | exact (HP.out.alloc _).alloc _ | exact Tab.drew HP.out) hb); clear HT HP hb; (try clear hc hca hcb); have HT := T1; have HP := P1; clear T1 P1; have hc := fun i => HT.out.cell i; have hca := fun o i => (HT.out.alloc o).cell i; have hcb := fun o o2 i => ((HT.out.alloc o).alloc o2).cell i) | (go_at_call 19; (with_reducible refine (CF.out _).mono ?_); rintro e w1 ⟨rfl, hb⟩; have T1 := Aside0.mk (One.step (by first | exact HT.out | exact HT.out.alloc _ | exact (HT.out.alloc _).alloc _ | exact HT.out.drew) hb); have P1 := Aside0.mk (Tab.below (by first | exact HP.out | exact HP.out.alloc _ | exact (HP.out.alloc _).alloc _ | exact Tab.drew HP.out) hb); clear HT HP hb; (try clear ho); (try clear hc hca hcb); have HT := T1; have HP := P1; clear T1 P1; have hc := fun i => HT.out.cell i; have hca := fun o i => (HT.out.alloc o).cell i; have hcb := fun o o2 i => ((HT.out.alloc o).alloc o2).cell i) | (go_at_call 24; (with_reducible refine (Nwk.out _ (by first | exact HP.out | exact HP.out.alloc _ | exact (HP.out.alloc _).alloc _ | exact Tab.drew HP.out)).mono ?_); rintro e w1 ⟨rfl, hb⟩; have ho := fun i => hb.cell (p := ⟨wR.heap.size + 1, i, none⟩) (by simp); have T1 := Aside0.mk (One.step (by first | exact HT.out | exact HT.out.alloc _ | exact (HT.out.alloc _).alloc _ | exact HT.out.drew) hb); have P1 := Aside0.mk (Tab.below (by first | exact HP.out | exact HP.out.alloc _ | exact (HP.out.alloc _).alloc _ | exact Tab.drew HP.out) hb); clear HT HP hb; (try clear hc hca hcb); have HT := T1; have HP := P1; clear T1 P1; have hc := fun i => HT.out.cell i; have hca := fun o i => (HT.out.alloc o).cell i; have hcb := fun o o2 i => ((HT.out.alloc o).alloc o2).cell i))
  go_region_held3 (fun w' => ∀ i, w'.cell? ⟨w.heap.size, i, none⟩ = (evL 5 wk 2 hn hg nn ng t a u false er)[i]?) ((intro i; first | exact HT.out.cell i | exact (HT.out.alloc _).cell i)) (first | (go_at_call 25; (first | (with_reducible refine (Nhn.out _ (by first | exact HP.out | exact HP.out.alloc _ | exact (HP.out.alloc _).alloc _ | exact Tab.drew HP.out)).mono ?_) | (with_reducible refine (Nnn.out _ (by first | exact HP.out | exact HP.out.alloc _ | exact (HP.out.alloc _).alloc _ | exact Tab.drew HP.out)).mono ?_)); rintro e w1 ⟨rfl, hb⟩; have T1 := Aside0.mk (One.step (by first | exact HT.out | exact HT.out.alloc _ | exact (HT.out.alloc _).alloc _ | exact HT.out.drew) hb); have P1 := Aside0.mk (Tab.below (by first | exact HP.out | exact HP.out.alloc _ | exact (HP.out.alloc _).alloc _ | exact Tab.drew HP.out) hb); clear HT HP hb; (try clear hc hca hcb); have HT := T1; have HP := P1; clear T1 P1; have hc := fun i => HT.out.cell i; have hca := fun o i => (HT.out.alloc o).cell i; have hcb := fun o o2 i => ((HT.out.alloc o).alloc o2).cell i) | (go_at_call 24; (first | (with_reducible refine (Nwk.out _ (by first | exact HP.out | exact HP.out.alloc _ | exact (HP.out.alloc _).alloc _ | exact Tab.drew HP.out)).mono ?_) | (with_reducible refine (Nt.out _ (by first | exact HP.out | exact HP.out.alloc _ | exact (HP.out.alloc _).alloc _ | exact Tab.drew HP.out)).mono ?_) | (with_reducible refine (Na.out _ (by first | exact HP.out | exact HP.out.alloc _ | exact (HP.out.alloc _).alloc _ | exact Tab.drew HP.out)).mono ?_) | (with_reducible refine (Nu.out _ (by first | exact HP.out | exact HP.out.alloc _ | exact (HP.out.alloc _).alloc _ | exact Tab.drew HP.out)).mono ?_) | (with_reducible refine (Ner.out _ (by first | exact HP.out | exact HP.out.alloc _ | exact (HP.out.alloc _).alloc _ | exact Tab.drew HP.out)).mono ?_)); rintro e w1 ⟨rfl, hb⟩; have T1 := Aside0.mk (One.step (by first | exact HT.out | exact HT.out.alloc _ | exact (HT.out.alloc _).alloc _ | exact HT.out.drew) hb); have P1 := Aside0.mk (Tab.below (by first | exact HP.out | exact HP.out.alloc _ | exact (HP.out.alloc _).alloc _ | exact Tab.drew HP.out) hb); clear HT HP hb; (try clear hc hca hcb); have HT := T1; have HP := P1; clear T1 P1; have hc := fun i => HT.out.cell i; have hca := fun o i => (HT.out.alloc o).cell i; have hcb := fun o o2 i => ((HT.out.alloc o).alloc o2).cell i))
  all_goals
    go_wp2
    go_rounds 8
    refine bodyPost_ret (v := .string (((((⟨#[114, 101, 116, 117, 114, 110]⟩ : ByteArray) ++ ((⟨#[32]⟩ : ByteArray) ++ numS wk)) ++ ((⟨#[32]⟩ : ByteArray) ++ (⟨#[99, 97, 110, 99, 101, 108]⟩ : ByteArray))) ++ ((⟨#[32]⟩ : ByteArray) ++ (⟨#[110, 111]⟩ : ByteArray))))) (by simp [results, Tryd.results11, go_sem]) rfl ⟨rfl, ?_⟩
    first | exact HT.out.below | exact (HT.out.alloc _).below | exact ((HT.out.alloc _).alloc _).below

set_option maxHeartbeats 8000000 in
set_option maxRecDepth 100000 in
theorem eline_5_5 (wk hn hg nn ng t a u : Int) (er : Int) (zwk : (numS wk).size ≤ 21) (zt : (numS t).size ≤ 21) (za : (numS a).size ≤ 21) (zu : (numS u).size ≤ 21) (zer : (numS er).size ≤ 21) (zhn : (hanS hn hg).size ≤ 43) (znn : (hanS nn ng).size ≤ 43)
    (CR : Aside0 (∀ W, Calls Tryd.prog 8 #[.agg (evL 5 wk 5 hn hg nn ng t a u false er)] W fun e w' => e = .returned (.bool true) ∧ Below W.heap.size W w'))
    (CF : Aside0 (∀ W, Calls Tryd.prog 19 #[.agg (evL 5 wk 5 hn hg nn ng t a u false er)] W fun e w' => e = .returned (.tuple #[.int .i64 0, .bool true]) ∧ Below W.heap.size W w'))
    (Nwk : Aside0 (∀ W, Tab W → Calls Tryd.prog 24 #[.int .i64 wk] W fun e w' => e = .returned (.string (numS wk)) ∧ Below W.heap.size W w'))
    (Nt : Aside0 (∀ W, Tab W → Calls Tryd.prog 24 #[.int .i64 t] W fun e w' => e = .returned (.string (numS t)) ∧ Below W.heap.size W w'))
    (Na : Aside0 (∀ W, Tab W → Calls Tryd.prog 24 #[.int .i64 a] W fun e w' => e = .returned (.string (numS a)) ∧ Below W.heap.size W w'))
    (Nu : Aside0 (∀ W, Tab W → Calls Tryd.prog 24 #[.int .i64 u] W fun e w' => e = .returned (.string (numS u)) ∧ Below W.heap.size W w'))
    (Ner : Aside0 (∀ W, Tab W → Calls Tryd.prog 24 #[.int .i64 er] W fun e w' => e = .returned (.string (numS er)) ∧ Below W.heap.size W w'))
    (Nhn : Aside0 (∀ W, Tab W → Calls Tryd.prog 25 #[.agg #[.int .i64 hn, .int .i64 hg]] W fun e w' => e = .returned (.string (hanS hn hg)) ∧ Below W.heap.size W w'))
    (Nnn : Aside0 (∀ W, Tab W → Calls Tryd.prog 25 #[.agg #[.int .i64 nn, .int .i64 ng]] W fun e w' => e = .returned (.string (hanS nn ng)) ∧ Below W.heap.size W w'))
    (w : World) (ht : Tab w) : Calls Tryd.prog 11 #[.agg (evL 5 wk 5 hn hg nn ng t a u false er)] w fun e w' => e = .returned (.string ((((⟨#[114, 101, 116, 117, 114, 110]⟩ : ByteArray) ++ ((⟨#[32]⟩ : ByteArray) ++ numS wk)) ++ ((⟨#[32]⟩ : ByteArray) ++ (⟨#[97, 100, 118, 97, 110, 99, 101]⟩ : ByteArray))))) ∧ Below w.heap.size w w' := by
  have hu := Tryd.underlying31
  have hu2 := Tryd.underlying28
  have b1 : bits BinOp.and IntKind.i64 0 1 = 0 := by decide
  have b2 : bits BinOp.and IntKind.i64 0 2 = 0 := by decide
  have b4 : bits BinOp.and IntKind.i64 0 4 = 0 := by decide
  have b8 : bits BinOp.and IntKind.i64 0 8 = 0 := by decide
  have b16 : bits BinOp.and IntKind.i64 0 16 = 0 := by decide
  have b32 : bits BinOp.and IntKind.i64 0 32 = 0 := by decide
  have b64 : bits BinOp.and IntKind.i64 0 64 = 0 := by decide
  have HT := Aside0.mk (One.start w (.cells (evL 5 wk 5 hn hg nn ng t a u false er) 31))
  have HP := Aside0.mk (Tab.alloc ht (.cells (evL 5 wk 5 hn hg nn ng t a u false er) 31))
  clear ht
  go_enter Tryd.func11, Tryd.ntmps11
  go_wp2_with (first | (go_at_call 8; (with_reducible refine (CR.out _).mono ?_); rintro e wR ⟨rfl, hb⟩; have T1 := Aside0.mk (One.step (by first | exact HT.out | exact HT.out.alloc _ | exact (HT.out.alloc _).alloc _ | exact HT.out.drew) hb); have P1 := Aside0.mk (Tab.below (by first | exact HP.out | exact HP.out.alloc _ | exact (HP.out.alloc _).alloc _ | exact Tab.drew HP.out) hb); clear HT HP hb; (try clear hc hca hcb); have HT := T1; have HP := P1; clear T1 P1; have hc := fun i => HT.out.cell i; have hca := fun o i => (HT.out.alloc o).cell i; have hcb := fun o o2 i => ((HT.out.alloc o).alloc o2).cell i) | (go_at_call 19; (with_reducible refine (CF.out _).mono ?_); rintro e w1 ⟨rfl, hb⟩; have T1 := Aside0.mk (One.step (by first | exact HT.out | exact HT.out.alloc _ | exact (HT.out.alloc _).alloc _ | exact HT.out.drew) hb); have P1 := Aside0.mk (Tab.below (by first | exact HP.out | exact HP.out.alloc _ | exact (HP.out.alloc _).alloc _ | exact Tab.drew HP.out) hb); clear HT HP hb; (try clear ho); (try clear hc hca hcb); have HT := T1; have HP := P1; clear T1 P1; have hc := fun i => HT.out.cell i; have hca := fun o i => (HT.out.alloc o).cell i; have hcb := fun o o2 i => ((HT.out.alloc o).alloc o2).cell i) | (go_at_call 24; (with_reducible refine (Nwk.out _ (by first | exact HP.out | exact HP.out.alloc _ | exact (HP.out.alloc _).alloc _ | exact Tab.drew HP.out)).mono ?_); rintro e w1 ⟨rfl, hb⟩; have ho := fun i => hb.cell (p := ⟨wR.heap.size + 1, i, none⟩) (by simp); have T1 := Aside0.mk (One.step (by first | exact HT.out | exact HT.out.alloc _ | exact (HT.out.alloc _).alloc _ | exact HT.out.drew) hb); have P1 := Aside0.mk (Tab.below (by first | exact HP.out | exact HP.out.alloc _ | exact (HP.out.alloc _).alloc _ | exact Tab.drew HP.out) hb); clear HT HP hb; (try clear hc hca hcb); have HT := T1; have HP := P1; clear T1 P1; have hc := fun i => HT.out.cell i; have hca := fun o i => (HT.out.alloc o).cell i; have hcb := fun o o2 i => ((HT.out.alloc o).alloc o2).cell i))
  go_region_held3 (fun w' => ∀ i, w'.cell? ⟨w.heap.size, i, none⟩ = (evL 5 wk 5 hn hg nn ng t a u false er)[i]?) ((intro i; first | exact HT.out.cell i | exact (HT.out.alloc _).cell i)) (first | (go_at_call 25; (first | (with_reducible refine (Nhn.out _ (by first | exact HP.out | exact HP.out.alloc _ | exact (HP.out.alloc _).alloc _ | exact Tab.drew HP.out)).mono ?_) | (with_reducible refine (Nnn.out _ (by first | exact HP.out | exact HP.out.alloc _ | exact (HP.out.alloc _).alloc _ | exact Tab.drew HP.out)).mono ?_)); rintro e w1 ⟨rfl, hb⟩; have T1 := Aside0.mk (One.step (by first | exact HT.out | exact HT.out.alloc _ | exact (HT.out.alloc _).alloc _ | exact HT.out.drew) hb); have P1 := Aside0.mk (Tab.below (by first | exact HP.out | exact HP.out.alloc _ | exact (HP.out.alloc _).alloc _ | exact Tab.drew HP.out) hb); clear HT HP hb; (try clear hc hca hcb); have HT := T1; have HP := P1; clear T1 P1; have hc := fun i => HT.out.cell i; have hca := fun o i => (HT.out.alloc o).cell i; have hcb := fun o o2 i => ((HT.out.alloc o).alloc o2).cell i) | (go_at_call 24; (first | (with_reducible refine (Nwk.out _ (by first | exact HP.out | exact HP.out.alloc _ | exact (HP.out.alloc _).alloc _ | exact Tab.drew HP.out)).mono ?_) | (with_reducible refine (Nt.out _ (by first | exact HP.out | exact HP.out.alloc _ | exact (HP.out.alloc _).alloc _ | exact Tab.drew HP.out)).mono ?_) | (with_reducible refine (Na.out _ (by first | exact HP.out | exact HP.out.alloc _ | exact (HP.out.alloc _).alloc _ | exact Tab.drew HP.out)).mono ?_) | (with_reducible refine (Nu.out _ (by first | exact HP.out | exact HP.out.alloc _ | exact (HP.out.alloc _).alloc _ | exact Tab.drew HP.out)).mono ?_) | (with_reducible refine (Ner.out _ (by first | exact HP.out | exact HP.out.alloc _ | exact (HP.out.alloc _).alloc _ | exact Tab.drew HP.out)).mono ?_)); rintro e w1 ⟨rfl, hb⟩; have T1 := Aside0.mk (One.step (by first | exact HT.out | exact HT.out.alloc _ | exact (HT.out.alloc _).alloc _ | exact HT.out.drew) hb); have P1 := Aside0.mk (Tab.below (by first | exact HP.out | exact HP.out.alloc _ | exact (HP.out.alloc _).alloc _ | exact Tab.drew HP.out) hb); clear HT HP hb; (try clear hc hca hcb); have HT := T1; have HP := P1; clear T1 P1; have hc := fun i => HT.out.cell i; have hca := fun o i => (HT.out.alloc o).cell i; have hcb := fun o o2 i => ((HT.out.alloc o).alloc o2).cell i))
  all_goals
    go_wp2
    go_rounds 8
    refine bodyPost_ret (v := .string ((((⟨#[114, 101, 116, 117, 114, 110]⟩ : ByteArray) ++ ((⟨#[32]⟩ : ByteArray) ++ numS wk)) ++ ((⟨#[32]⟩ : ByteArray) ++ (⟨#[97, 100, 118, 97, 110, 99, 101]⟩ : ByteArray))))) (by simp [results, Tryd.results11, go_sem]) rfl ⟨rfl, ?_⟩
    first | exact HT.out.below | exact (HT.out.alloc _).below | exact ((HT.out.alloc _).alloc _).below

end Go.Proofs.YthniclbmpeklmaaDoor.Ev
namespace Go.Proofs.YthniclbmpeklmaaDoor.Ev
end Go.Proofs.YthniclbmpeklmaaDoor.Ev
namespace Go.Proofs.YthniclbmpeklmaaDoor.Ev
open Go.RowKit Go.Proofs.YthniclbmpeklmaaDoorW.PrintWords Go.Proofs.YthniclbmpeklmaaDoorW.PrintLast Go.Proofs.YthniclbmpeklmaaDoorW.PrintMore
set_option linter.unusedVariables false
set_option linter.unusedSimpArgs false

/-- An event's cells. -/
abbrev evC (k wk op hn hg nn ng t a u : Int) (y : Bool) (er : Int) : Array Value := #[.int .i64 k, .int .i64 wk, .int .i64 op, .int .i64 hn, .int .i64 hg, .int .i64 nn, .int .i64 ng, .int .i64 t, .int .i64 a, .int .i64 u, .bool y, .int .i64 er]

theorem in_any (n x y z : Int) (b : Nat) (w : World) (h0 : w.cell? ⟨b, 0, none⟩ = some (.int .i64 x)) (h1 : w.cell? ⟨b, 1, none⟩ = some (.int .i64 y)) (h2 : w.cell? ⟨b, 2, none⟩ = some (.int .i64 z)) :
    Calls Tryd.prog 35 #[.int .i64 n, .slice (some ⟨b, 0, none⟩) 3 3] w fun e w' => e = .returned (.bool (x == n || (y == n || z == n))) ∧ w' = w := by
  cases cx : (x == n)
  · cases cy : (y == n)
    · cases cz : (z == n)
      · go_enter Tryd.func35, Tryd.ntmps35
        go_wp2
        go_loop [5] (fun v => v = .int .i64 0 ∨ v = .int .i64 1 ∨ v = .int .i64 2 ∨ v = .int .i64 3) (fun v => 3 - (intOf v).toNat)
        case atStart => exact .inl rfl
        case round =>
          rcases hrel with rfl | rfl | rfl | rfl
          · go_wp2
            go_round
            case rel => exact .inr (.inl rfl)
            case measure => simp [intOf]
          · go_wp2
            go_round
            case rel => exact .inr (.inr (.inl rfl))
            case measure => simp [intOf]
          · go_wp2
            go_round
            case rel => exact .inr (.inr (.inr (rfl)))
            case measure => simp [intOf]
          · go_wp2
            go_ret
            exact ⟨by simp [*], rfl⟩
      · go_enter Tryd.func35, Tryd.ntmps35
        go_wp2
        go_loop [5] (fun v => v = .int .i64 0 ∨ v = .int .i64 1 ∨ v = .int .i64 2) (fun v => 3 - (intOf v).toNat)
        case atStart => exact .inl rfl
        case round =>
          rcases hrel with rfl | rfl | rfl
          · go_wp2
            go_round
            case rel => exact .inr (.inl rfl)
            case measure => simp [intOf]
          · go_wp2
            go_round
            case rel => exact .inr (.inr (rfl))
            case measure => simp [intOf]
          · go_wp2
            go_ret
            exact ⟨by simp [*], rfl⟩
    · go_enter Tryd.func35, Tryd.ntmps35
      go_wp2
      go_loop [5] (fun v => v = .int .i64 0 ∨ v = .int .i64 1) (fun v => 3 - (intOf v).toNat)
      case atStart => exact .inl rfl
      case round =>
        rcases hrel with rfl | rfl
        · go_wp2
          go_round
          case rel => exact .inr (rfl)
          case measure => simp [intOf]
        · go_wp2
          go_ret
          exact ⟨by simp [*], rfl⟩
  · go_enter Tryd.func35, Tryd.ntmps35
    go_wp2
    go_loop [5] (fun v => v = .int .i64 0) (fun v => 3 - (intOf v).toNat)
    case atStart => exact rfl
    case round =>
      obtain rfl := hrel
      · go_wp2
        go_ret
        exact ⟨by simp [*], rfl⟩
end Go.Proofs.YthniclbmpeklmaaDoor.Ev
