/- What is proved: knelllaw24.LinkApart returns true; connections' numbers fit into 64 bits. -/
import Derived.Test.YthljanmfanppdaaLa
namespace Go.Proofs.Ythljanmfanppdaa.Bk
open Go.RowKit Go.Maps Go.Proofs.YthljanmfanppdaaW.PrintWords Go.Proofs.YthljanmfanppdaaW.PrintLast Go.Proofs.YthljanmfanppdaaW.PrintMore Go.Proofs.Ythljanmfanppdaa.Mp Go.Proofs.Ythljanmfanppdaa.KLa
set_option linter.unusedVariables false
set_option linter.unusedSimpArgs false
set_option maxHeartbeats 8000000 in
set_option maxRecDepth 100000 in
theorem apart_long (c : Cf) (A1 : Option Addr) (n1 : Nat) (q1 : Nat) (A2 : Option Addr) (n2 q2 : Nat) (hn : 60 < n1) (w : World) :
    Calls Try.prog 9 #[.agg c.cells, .slice A1 n1 q1, .slice A2 n2 q2] w fun e w' => e = .returned (.bool true) ∧ Below w.heap.size w w' := by
  have CS := Aside0.mk (fun W => speaks_any W)
  have hn' : decide ((n1 : Int) > 60) = true := by simp; omega
  go_enter Try.func9, Try.ntmps9
  go_wp2_with (first
    | (go_at_call 35; (with_reducible refine (CS.out _).mono ?_); rintro e w2 ⟨rfl, hb⟩; have n3 := Aside0.mk (below_step n1.out hb); clear hb; clear n1; have n1 := n3)
    | (go_at_call 35; (with_reducible refine (CS.out _).mono ?_); rintro e w1 ⟨rfl, hb⟩; have n1 := Aside0.mk (show Below w.heap.size w w1 from below_step (below_alloc (Below.refl _ _) _) hb); have n2 := Aside0.mk ((hb.block w.heap.size (by simp)).trans (heap_alloc_new w (.cells c.cells 33))); have hc := fun i => blk_cell n2.out i; clear hb))
  go_ret
  exact ⟨rfl, n1.out⟩
set_option maxHeartbeats 8000000 in
set_option maxRecDepth 100000 in
theorem apart_wrong (c : Cf) (A1 : Option Addr) (n1 : Nat) (q1 : Nat) (A2 : Option Addr) (n2 q2 : Nat) (hn : n1 ≤ 60) (hc : (cfCode c == 0) = false) (w : World) :
    Calls Try.prog 9 #[.agg c.cells, .slice A1 n1 q1, .slice A2 n2 q2] w fun e w' => e = .returned (.bool true) ∧ Below w.heap.size w w' := by
  have CS := Aside0.mk (fun W => speaks_any W)
  have CR := Aside0.mk (fun W => cright_calls c W)
  rw [hc] at CR
  clear hc
  have hn' : decide ((n1 : Int) > 60) = false := by simp; omega
  go_enter Try.func9, Try.ntmps9
  go_wp2_with (first
    | (go_at_call 35; (with_reducible refine (CS.out _).mono ?_); rintro e w2 ⟨rfl, hb⟩; have n3 := Aside0.mk (below_step n1.out hb); clear hb; clear n1; have n1 := n3)
    | (go_at_call 35; (with_reducible refine (CS.out _).mono ?_); rintro e w1 ⟨rfl, hb⟩; have n1 := Aside0.mk (show Below w.heap.size w w1 from below_step (below_alloc (Below.refl _ _) _) hb); have n2 := Aside0.mk ((hb.block w.heap.size (by simp)).trans (heap_alloc_new w (.cells c.cells 33))); have hc := fun i => blk_cell n2.out i; clear hb)
    | (go_at_call 22; (with_reducible refine (CR.out _).mono ?_); rintro e w2 ⟨rfl, hb⟩; have n1 := Aside0.mk (below_step n1.out hb); clear hb))
  go_ret
  exact ⟨rfl, n1.out⟩
end Go.Proofs.Ythljanmfanppdaa.Bk
