/- What is proved: which operations knellref24.able lets be. -/
import Derived.Test.YthljanmfanppdaaPl
namespace Go.Proofs.Ythljanmfanppdaa.Bk
open Go.RowKit Go.Proofs.YthljanmfanppdaaW.PrintWords Go.Proofs.YthljanmfanppdaaW.PrintLast Go.Proofs.YthljanmfanppdaaW.PrintMore Go.Proofs.Ythljanmfanppdaa.KRf
set_option linter.unusedVariables false
set_option linter.unusedSimpArgs false
/-- The document's book in cells. -/
abbrev rbA (c : Cf) (clk : Int) (v : Value) : Array Value := #[.int .i64 c.c0, .int .i64 c.c1, .int .i64 c.c2, .int .i64 c.c3, .int .i64 c.c4, .int .i64 c.c5, .int .i64 c.c6, .int .i64 c.c7, .int .i64 c.c8, .int .i64 c.c9, .int .i64 c.c10, .int .i64 c.c11, .int .i64 c.c12, .int .i64 clk, v]
theorem at_calls {c : Cf} {F : SM} {L : List S71} (h : Tie c F L) (A : Option Addr) (cap : Nat) (hc : L.length ≤ cap) (clk x a b d : Int) (hF : F.at_ x = (a, b, d)) (w : World) (hr : Kd.C k71 w A L.length L) (W : World) (hb : Below w.heap.size w W) :
    Calls Try.prog 43 #[.agg (rbA c clk (.slice A L.length cap)), .int .i64 x] W fun e w' => e = .returned (.agg #[.int .i64 a, .int .i64 b, .int .i64 d]) ∧ Below W.heap.size W w' :=
  knellref24_At.calls _ _ _ _ _ _ _ _ _ _ _ _ _ _ A cap L x a b d W (Kd.C_below hr hb) hc (by rw [At_is h, hF])

set_option maxHeartbeats 4000000 in
set_option maxRecDepth 100000 in
theorem able_touch {c : Cf} {F : SM} {L : List S71} (h : Tie c F L) (A : Option Addr) (cap : Nat) (hc : L.length ≤ cap) (clk k wk op cn t dr er a b d : Int) (hF : F.at_ cn = (a, b, d)) (ho : op = 2) (ha : a = 1) (w : World) (hr : Kd.C k71 w A L.length L) :
    Calls Try.prog 85 #[.agg (rbA c clk (.slice A L.length cap)), .agg (evA k wk op cn t dr er)] w fun e w' => e = .returned (.int .i64 (0)) ∧ Below w.heap.size w w' := by
  have hu1 := Try.underlying66
  have hu2 := Try.underlying71
  have hu3 := Try.underlying54
  have hu4 := Try.underlying33
  have CA := Aside0.mk (fun W hb => at_calls h A cap hc clk cn a b d hF w hr W hb)
  subst ho
  subst ha
  clear h hF hr hc
  go_enter Try.func85, Try.ntmps85
  go_wp2_with (go_at_call 43; (with_reducible refine (CA.out _ (by repeat (first | exact Below.refl _ _ | apply below_alloc))).mono ?_); rintro e w1 ⟨rfl, hb⟩; have n1 := Aside0.mk (show Below w.heap.size w w1 from below_step (by repeat (first | exact Below.refl _ _ | apply below_alloc)) hb); have n2 : w1.heap[w.heap.size]? = some (.cells (rbA c clk (.slice A L.length cap)) 66 (0, 0)) := blk_below (blk_alloc (blk_new w _) _) hb; have n3 : w1.heap[w.heap.size + 1]? = some (.cells (evA k wk 2 cn t dr er) 54 (0, 0)) := blk_below (by simpa using blk_new (w.alloc (.cells (rbA c clk (.slice A L.length cap)) 66)) (.cells (evA k wk 2 cn t dr er) 54)) hb; have hl1 := blk_lt n2; have hl2 := blk_lt n3; have hcb := fun i => blk_cell n2 i; have hce := fun i => blk_cell n3 i; clear hb n2 n3)
  go_ret
  exact ⟨rfl, by repeat (first | exact n1.out | apply below_alloc)⟩

set_option maxHeartbeats 4000000 in
set_option maxRecDepth 100000 in
theorem able_touch_no {c : Cf} {F : SM} {L : List S71} (h : Tie c F L) (A : Option Addr) (cap : Nat) (hc : L.length ≤ cap) (clk k wk op cn t dr er a b d : Int) (hF : F.at_ cn = (a, b, d)) (ho : op = 2) (ha1 : ¬ a = 1) (w : World) (hr : Kd.C k71 w A L.length L) :
    Calls Try.prog 85 #[.agg (rbA c clk (.slice A L.length cap)), .agg (evA k wk op cn t dr er)] w fun e w' => e = .returned (.int .i64 (-1)) ∧ Below w.heap.size w w' := by
  have hu1 := Try.underlying66
  have hu2 := Try.underlying71
  have hu3 := Try.underlying54
  have hu4 := Try.underlying33
  have CA := Aside0.mk (fun W hb => at_calls h A cap hc clk cn a b d hF w hr W hb)
  subst ho
  have ga1 : (a == 1) = false := beq_eq_false_iff_ne.2 ha1
  have fa1 : (a != 1) = true := bne_iff_ne.2 ha1
  clear h hF hr hc
  go_enter Try.func85, Try.ntmps85
  go_wp2_with (go_at_call 43; (with_reducible refine (CA.out _ (by repeat (first | exact Below.refl _ _ | apply below_alloc))).mono ?_); rintro e w1 ⟨rfl, hb⟩; have n1 := Aside0.mk (show Below w.heap.size w w1 from below_step (by repeat (first | exact Below.refl _ _ | apply below_alloc)) hb); have n2 : w1.heap[w.heap.size]? = some (.cells (rbA c clk (.slice A L.length cap)) 66 (0, 0)) := blk_below (blk_alloc (blk_new w _) _) hb; have n3 : w1.heap[w.heap.size + 1]? = some (.cells (evA k wk 2 cn t dr er) 54 (0, 0)) := blk_below (by simpa using blk_new (w.alloc (.cells (rbA c clk (.slice A L.length cap)) 66)) (.cells (evA k wk 2 cn t dr er) 54)) hb; have hl1 := blk_lt n2; have hl2 := blk_lt n3; have hcb := fun i => blk_cell n2 i; have hce := fun i => blk_cell n3 i; clear hb n2 n3)
  go_ret
  exact ⟨rfl, by repeat (first | exact n1.out | apply below_alloc)⟩

set_option maxHeartbeats 4000000 in
set_option maxRecDepth 100000 in
theorem able_close {c : Cf} {F : SM} {L : List S71} (h : Tie c F L) (A : Option Addr) (cap : Nat) (hc : L.length ≤ cap) (clk k wk op cn t dr er a b d : Int) (hF : F.at_ cn = (a, b, d)) (ho : op = 3) (ha0 : ¬ a = 0) (w : World) (hr : Kd.C k71 w A L.length L) :
    Calls Try.prog 85 #[.agg (rbA c clk (.slice A L.length cap)), .agg (evA k wk op cn t dr er)] w fun e w' => e = .returned (.int .i64 (0)) ∧ Below w.heap.size w w' := by
  have hu1 := Try.underlying66
  have hu2 := Try.underlying71
  have hu3 := Try.underlying54
  have hu4 := Try.underlying33
  have CA := Aside0.mk (fun W hb => at_calls h A cap hc clk cn a b d hF w hr W hb)
  subst ho
  have ga0 : (a == 0) = false := beq_eq_false_iff_ne.2 ha0
  have fa0 : (a != 0) = true := bne_iff_ne.2 ha0
  clear h hF hr hc
  go_enter Try.func85, Try.ntmps85
  go_wp2_with (go_at_call 43; (with_reducible refine (CA.out _ (by repeat (first | exact Below.refl _ _ | apply below_alloc))).mono ?_); rintro e w1 ⟨rfl, hb⟩; have n1 := Aside0.mk (show Below w.heap.size w w1 from below_step (by repeat (first | exact Below.refl _ _ | apply below_alloc)) hb); have n2 : w1.heap[w.heap.size]? = some (.cells (rbA c clk (.slice A L.length cap)) 66 (0, 0)) := blk_below (blk_alloc (blk_new w _) _) hb; have n3 : w1.heap[w.heap.size + 1]? = some (.cells (evA k wk 3 cn t dr er) 54 (0, 0)) := blk_below (by simpa using blk_new (w.alloc (.cells (rbA c clk (.slice A L.length cap)) 66)) (.cells (evA k wk 3 cn t dr er) 54)) hb; have hl1 := blk_lt n2; have hl2 := blk_lt n3; have hcb := fun i => blk_cell n2 i; have hce := fun i => blk_cell n3 i; clear hb n2 n3)
  go_ret
  exact ⟨rfl, by repeat (first | exact n1.out | apply below_alloc)⟩

set_option maxHeartbeats 4000000 in
set_option maxRecDepth 100000 in
theorem able_close_no {c : Cf} {F : SM} {L : List S71} (h : Tie c F L) (A : Option Addr) (cap : Nat) (hc : L.length ≤ cap) (clk k wk op cn t dr er a b d : Int) (hF : F.at_ cn = (a, b, d)) (ho : op = 3) (ha : a = 0) (w : World) (hr : Kd.C k71 w A L.length L) :
    Calls Try.prog 85 #[.agg (rbA c clk (.slice A L.length cap)), .agg (evA k wk op cn t dr er)] w fun e w' => e = .returned (.int .i64 (-1)) ∧ Below w.heap.size w w' := by
  have hu1 := Try.underlying66
  have hu2 := Try.underlying71
  have hu3 := Try.underlying54
  have hu4 := Try.underlying33
  have CA := Aside0.mk (fun W hb => at_calls h A cap hc clk cn a b d hF w hr W hb)
  subst ho
  subst ha
  clear h hF hr hc
  go_enter Try.func85, Try.ntmps85
  go_wp2_with (go_at_call 43; (with_reducible refine (CA.out _ (by repeat (first | exact Below.refl _ _ | apply below_alloc))).mono ?_); rintro e w1 ⟨rfl, hb⟩; have n1 := Aside0.mk (show Below w.heap.size w w1 from below_step (by repeat (first | exact Below.refl _ _ | apply below_alloc)) hb); have n2 : w1.heap[w.heap.size]? = some (.cells (rbA c clk (.slice A L.length cap)) 66 (0, 0)) := blk_below (blk_alloc (blk_new w _) _) hb; have n3 : w1.heap[w.heap.size + 1]? = some (.cells (evA k wk 3 cn t dr er) 54 (0, 0)) := blk_below (by simpa using blk_new (w.alloc (.cells (rbA c clk (.slice A L.length cap)) 66)) (.cells (evA k wk 3 cn t dr er) 54)) hb; have hl1 := blk_lt n2; have hl2 := blk_lt n3; have hcb := fun i => blk_cell n2 i; have hce := fun i => blk_cell n3 i; clear hb n2 n3)
  go_ret
  exact ⟨rfl, by repeat (first | exact n1.out | apply below_alloc)⟩

set_option maxHeartbeats 4000000 in
set_option maxRecDepth 100000 in
theorem able_success {c : Cf} {F : SM} {L : List S71} (h : Tie c F L) (A : Option Addr) (cap : Nat) (hc : L.length ≤ cap) (clk k wk op cn t dr er a b d : Int) (hF : F.at_ cn = (a, b, d)) (ho : op = 5) (ha : a = 3) (w : World) (hr : Kd.C k71 w A L.length L) :
    Calls Try.prog 85 #[.agg (rbA c clk (.slice A L.length cap)), .agg (evA k wk op cn t dr er)] w fun e w' => e = .returned (.int .i64 (0)) ∧ Below w.heap.size w w' := by
  have hu1 := Try.underlying66
  have hu2 := Try.underlying71
  have hu3 := Try.underlying54
  have hu4 := Try.underlying33
  have CA := Aside0.mk (fun W hb => at_calls h A cap hc clk cn a b d hF w hr W hb)
  subst ho
  subst ha
  clear h hF hr hc
  go_enter Try.func85, Try.ntmps85
  go_wp2_with (go_at_call 43; (with_reducible refine (CA.out _ (by repeat (first | exact Below.refl _ _ | apply below_alloc))).mono ?_); rintro e w1 ⟨rfl, hb⟩; have n1 := Aside0.mk (show Below w.heap.size w w1 from below_step (by repeat (first | exact Below.refl _ _ | apply below_alloc)) hb); have n2 : w1.heap[w.heap.size]? = some (.cells (rbA c clk (.slice A L.length cap)) 66 (0, 0)) := blk_below (blk_alloc (blk_new w _) _) hb; have n3 : w1.heap[w.heap.size + 1]? = some (.cells (evA k wk 5 cn t dr er) 54 (0, 0)) := blk_below (by simpa using blk_new (w.alloc (.cells (rbA c clk (.slice A L.length cap)) 66)) (.cells (evA k wk 5 cn t dr er) 54)) hb; have hl1 := blk_lt n2; have hl2 := blk_lt n3; have hcb := fun i => blk_cell n2 i; have hce := fun i => blk_cell n3 i; clear hb n2 n3)
  go_ret
  exact ⟨rfl, by repeat (first | exact n1.out | apply below_alloc)⟩

set_option maxHeartbeats 4000000 in
set_option maxRecDepth 100000 in
theorem able_success_no {c : Cf} {F : SM} {L : List S71} (h : Tie c F L) (A : Option Addr) (cap : Nat) (hc : L.length ≤ cap) (clk k wk op cn t dr er a b d : Int) (hF : F.at_ cn = (a, b, d)) (ho : op = 5) (ha3 : ¬ a = 3) (w : World) (hr : Kd.C k71 w A L.length L) :
    Calls Try.prog 85 #[.agg (rbA c clk (.slice A L.length cap)), .agg (evA k wk op cn t dr er)] w fun e w' => e = .returned (.int .i64 (-1)) ∧ Below w.heap.size w w' := by
  have hu1 := Try.underlying66
  have hu2 := Try.underlying71
  have hu3 := Try.underlying54
  have hu4 := Try.underlying33
  have CA := Aside0.mk (fun W hb => at_calls h A cap hc clk cn a b d hF w hr W hb)
  subst ho
  have ga3 : (a == 3) = false := beq_eq_false_iff_ne.2 ha3
  have fa3 : (a != 3) = true := bne_iff_ne.2 ha3
  clear h hF hr hc
  go_enter Try.func85, Try.ntmps85
  go_wp2_with (go_at_call 43; (with_reducible refine (CA.out _ (by repeat (first | exact Below.refl _ _ | apply below_alloc))).mono ?_); rintro e w1 ⟨rfl, hb⟩; have n1 := Aside0.mk (show Below w.heap.size w w1 from below_step (by repeat (first | exact Below.refl _ _ | apply below_alloc)) hb); have n2 : w1.heap[w.heap.size]? = some (.cells (rbA c clk (.slice A L.length cap)) 66 (0, 0)) := blk_below (blk_alloc (blk_new w _) _) hb; have n3 : w1.heap[w.heap.size + 1]? = some (.cells (evA k wk 5 cn t dr er) 54 (0, 0)) := blk_below (by simpa using blk_new (w.alloc (.cells (rbA c clk (.slice A L.length cap)) 66)) (.cells (evA k wk 5 cn t dr er) 54)) hb; have hl1 := blk_lt n2; have hl2 := blk_lt n3; have hcb := fun i => blk_cell n2 i; have hce := fun i => blk_cell n3 i; clear hb n2 n3)
  go_ret
  exact ⟨rfl, by repeat (first | exact n1.out | apply below_alloc)⟩

set_option maxHeartbeats 4000000 in
set_option maxRecDepth 100000 in
theorem able_open {c : Cf} {F : SM} {L : List S71} (h : Tie c F L) (A : Option Addr) (cap : Nat) (hc : L.length ≤ cap) (clk k wk op cn t dr er a b d : Int) (hF : F.at_ cn = (a, b, d)) (ho : op = 1) (ha : a = 0) (h0 : cn ≥ 0) (h1 : cn < (L.length : Int)) (w : World) (hr : Kd.C k71 w A L.length L) :
    Calls Try.prog 85 #[.agg (rbA c clk (.slice A L.length cap)), .agg (evA k wk op cn t dr er)] w fun e w' => e = .returned (.int .i64 (0)) ∧ Below w.heap.size w w' := by
  have hu1 := Try.underlying66
  have hu2 := Try.underlying71
  have hu3 := Try.underlying54
  have hu4 := Try.underlying33
  have CA := Aside0.mk (fun W hb => at_calls h A cap hc clk cn a b d hF w hr W hb)
  subst ho
  subst ha
  have g0 : decide (cn ≥ 0) = true := decide_eq_true h0
  have g1 : decide (cn < (L.length : Int)) = true := decide_eq_true h1
  clear h hF hr hc
  go_enter Try.func85, Try.ntmps85
  go_wp2_with (go_at_call 43; (with_reducible refine (CA.out _ (by repeat (first | exact Below.refl _ _ | apply below_alloc))).mono ?_); rintro e w1 ⟨rfl, hb⟩; have n1 := Aside0.mk (show Below w.heap.size w w1 from below_step (by repeat (first | exact Below.refl _ _ | apply below_alloc)) hb); have n2 : w1.heap[w.heap.size]? = some (.cells (rbA c clk (.slice A L.length cap)) 66 (0, 0)) := blk_below (blk_alloc (blk_new w _) _) hb; have n3 : w1.heap[w.heap.size + 1]? = some (.cells (evA k wk 1 cn t dr er) 54 (0, 0)) := blk_below (by simpa using blk_new (w.alloc (.cells (rbA c clk (.slice A L.length cap)) 66)) (.cells (evA k wk 1 cn t dr er) 54)) hb; have hl1 := blk_lt n2; have hl2 := blk_lt n3; have hcb := fun i => blk_cell n2 i; have hce := fun i => blk_cell n3 i; clear hb n2 n3)
  go_ret
  exact ⟨rfl, by repeat (first | exact n1.out | apply below_alloc)⟩

set_option maxHeartbeats 4000000 in
set_option maxRecDepth 100000 in
theorem able_open_no1 {c : Cf} {F : SM} {L : List S71} (h : Tie c F L) (A : Option Addr) (cap : Nat) (hc : L.length ≤ cap) (clk k wk op cn t dr er a b d : Int) (hF : F.at_ cn = (a, b, d)) (ho : op = 1) (ha0 : ¬ a = 0) (w : World) (hr : Kd.C k71 w A L.length L) :
    Calls Try.prog 85 #[.agg (rbA c clk (.slice A L.length cap)), .agg (evA k wk op cn t dr er)] w fun e w' => e = .returned (.int .i64 (-1)) ∧ Below w.heap.size w w' := by
  have hu1 := Try.underlying66
  have hu2 := Try.underlying71
  have hu3 := Try.underlying54
  have hu4 := Try.underlying33
  have CA := Aside0.mk (fun W hb => at_calls h A cap hc clk cn a b d hF w hr W hb)
  subst ho
  have ga0 : (a == 0) = false := beq_eq_false_iff_ne.2 ha0
  have fa0 : (a != 0) = true := bne_iff_ne.2 ha0
  clear h hF hr hc
  go_enter Try.func85, Try.ntmps85
  go_wp2_with (go_at_call 43; (with_reducible refine (CA.out _ (by repeat (first | exact Below.refl _ _ | apply below_alloc))).mono ?_); rintro e w1 ⟨rfl, hb⟩; have n1 := Aside0.mk (show Below w.heap.size w w1 from below_step (by repeat (first | exact Below.refl _ _ | apply below_alloc)) hb); have n2 : w1.heap[w.heap.size]? = some (.cells (rbA c clk (.slice A L.length cap)) 66 (0, 0)) := blk_below (blk_alloc (blk_new w _) _) hb; have n3 : w1.heap[w.heap.size + 1]? = some (.cells (evA k wk 1 cn t dr er) 54 (0, 0)) := blk_below (by simpa using blk_new (w.alloc (.cells (rbA c clk (.slice A L.length cap)) 66)) (.cells (evA k wk 1 cn t dr er) 54)) hb; have hl1 := blk_lt n2; have hl2 := blk_lt n3; have hcb := fun i => blk_cell n2 i; have hce := fun i => blk_cell n3 i; clear hb n2 n3)
  go_ret
  exact ⟨rfl, by repeat (first | exact n1.out | apply below_alloc)⟩

set_option maxHeartbeats 4000000 in
set_option maxRecDepth 100000 in
theorem able_open_no2 {c : Cf} {F : SM} {L : List S71} (h : Tie c F L) (A : Option Addr) (cap : Nat) (hc : L.length ≤ cap) (clk k wk op cn t dr er a b d : Int) (hF : F.at_ cn = (a, b, d)) (ho : op = 1) (ha : a = 0) (h0 : ¬ cn ≥ 0) (w : World) (hr : Kd.C k71 w A L.length L) :
    Calls Try.prog 85 #[.agg (rbA c clk (.slice A L.length cap)), .agg (evA k wk op cn t dr er)] w fun e w' => e = .returned (.int .i64 (-1)) ∧ Below w.heap.size w w' := by
  have hu1 := Try.underlying66
  have hu2 := Try.underlying71
  have hu3 := Try.underlying54
  have hu4 := Try.underlying33
  have CA := Aside0.mk (fun W hb => at_calls h A cap hc clk cn a b d hF w hr W hb)
  subst ho
  subst ha
  have g0 : decide (cn ≥ 0) = false := decide_eq_false h0
  clear h hF hr hc
  go_enter Try.func85, Try.ntmps85
  go_wp2_with (go_at_call 43; (with_reducible refine (CA.out _ (by repeat (first | exact Below.refl _ _ | apply below_alloc))).mono ?_); rintro e w1 ⟨rfl, hb⟩; have n1 := Aside0.mk (show Below w.heap.size w w1 from below_step (by repeat (first | exact Below.refl _ _ | apply below_alloc)) hb); have n2 : w1.heap[w.heap.size]? = some (.cells (rbA c clk (.slice A L.length cap)) 66 (0, 0)) := blk_below (blk_alloc (blk_new w _) _) hb; have n3 : w1.heap[w.heap.size + 1]? = some (.cells (evA k wk 1 cn t dr er) 54 (0, 0)) := blk_below (by simpa using blk_new (w.alloc (.cells (rbA c clk (.slice A L.length cap)) 66)) (.cells (evA k wk 1 cn t dr er) 54)) hb; have hl1 := blk_lt n2; have hl2 := blk_lt n3; have hcb := fun i => blk_cell n2 i; have hce := fun i => blk_cell n3 i; clear hb n2 n3)
  go_ret
  exact ⟨rfl, by repeat (first | exact n1.out | apply below_alloc)⟩

set_option maxHeartbeats 4000000 in
set_option maxRecDepth 100000 in
theorem able_open_no3 {c : Cf} {F : SM} {L : List S71} (h : Tie c F L) (A : Option Addr) (cap : Nat) (hc : L.length ≤ cap) (clk k wk op cn t dr er a b d : Int) (hF : F.at_ cn = (a, b, d)) (ho : op = 1) (ha : a = 0) (h0 : cn ≥ 0) (h1 : ¬ cn < (L.length : Int)) (w : World) (hr : Kd.C k71 w A L.length L) :
    Calls Try.prog 85 #[.agg (rbA c clk (.slice A L.length cap)), .agg (evA k wk op cn t dr er)] w fun e w' => e = .returned (.int .i64 (-1)) ∧ Below w.heap.size w w' := by
  have hu1 := Try.underlying66
  have hu2 := Try.underlying71
  have hu3 := Try.underlying54
  have hu4 := Try.underlying33
  have CA := Aside0.mk (fun W hb => at_calls h A cap hc clk cn a b d hF w hr W hb)
  subst ho
  subst ha
  have g0 : decide (cn ≥ 0) = true := decide_eq_true h0
  have g1 : decide (cn < (L.length : Int)) = false := decide_eq_false h1
  clear h hF hr hc
  go_enter Try.func85, Try.ntmps85
  go_wp2_with (go_at_call 43; (with_reducible refine (CA.out _ (by repeat (first | exact Below.refl _ _ | apply below_alloc))).mono ?_); rintro e w1 ⟨rfl, hb⟩; have n1 := Aside0.mk (show Below w.heap.size w w1 from below_step (by repeat (first | exact Below.refl _ _ | apply below_alloc)) hb); have n2 : w1.heap[w.heap.size]? = some (.cells (rbA c clk (.slice A L.length cap)) 66 (0, 0)) := blk_below (blk_alloc (blk_new w _) _) hb; have n3 : w1.heap[w.heap.size + 1]? = some (.cells (evA k wk 1 cn t dr er) 54 (0, 0)) := blk_below (by simpa using blk_new (w.alloc (.cells (rbA c clk (.slice A L.length cap)) 66)) (.cells (evA k wk 1 cn t dr er) 54)) hb; have hl1 := blk_lt n2; have hl2 := blk_lt n3; have hcb := fun i => blk_cell n2 i; have hce := fun i => blk_cell n3 i; clear hb n2 n3)
  go_ret
  exact ⟨rfl, by repeat (first | exact n1.out | apply below_alloc)⟩

set_option maxHeartbeats 4000000 in
set_option maxRecDepth 100000 in
theorem able_fail1_last {c : Cf} {F : SM} {L : List S71} (h : Tie c F L) (A : Option Addr) (cap : Nat) (hc : L.length ≤ cap) (clk k wk op cn t dr er a b d : Int) (hF : F.at_ cn = (a, b, d)) (ho : op = 4) (ha : a = 1) (h1 : b ≥ c.c12) (w : World) (hr : Kd.C k71 w A L.length L) :
    Calls Try.prog 85 #[.agg (rbA c clk (.slice A L.length cap)), .agg (evA k wk op cn t dr er)] w fun e w' => e = .returned (.int .i64 (5)) ∧ Below w.heap.size w w' := by
  have hu1 := Try.underlying66
  have hu2 := Try.underlying71
  have hu3 := Try.underlying54
  have hu4 := Try.underlying33
  have CA := Aside0.mk (fun W hb => at_calls h A cap hc clk cn a b d hF w hr W hb)
  subst ho
  subst ha
  have g1 : decide (b ≥ c.c12) = true := decide_eq_true h1
  clear h hF hr hc
  go_enter Try.func85, Try.ntmps85
  go_wp2_with (go_at_call 43; (with_reducible refine (CA.out _ (by repeat (first | exact Below.refl _ _ | apply below_alloc))).mono ?_); rintro e w1 ⟨rfl, hb⟩; have n1 := Aside0.mk (show Below w.heap.size w w1 from below_step (by repeat (first | exact Below.refl _ _ | apply below_alloc)) hb); have n2 : w1.heap[w.heap.size]? = some (.cells (rbA c clk (.slice A L.length cap)) 66 (0, 0)) := blk_below (blk_alloc (blk_new w _) _) hb; have n3 : w1.heap[w.heap.size + 1]? = some (.cells (evA k wk 4 cn t dr er) 54 (0, 0)) := blk_below (by simpa using blk_new (w.alloc (.cells (rbA c clk (.slice A L.length cap)) 66)) (.cells (evA k wk 4 cn t dr er) 54)) hb; have hl1 := blk_lt n2; have hl2 := blk_lt n3; have hcb := fun i => blk_cell n2 i; have hce := fun i => blk_cell n3 i; clear hb n2 n3)
  go_ret
  exact ⟨rfl, by repeat (first | exact n1.out | apply below_alloc)⟩

set_option maxHeartbeats 4000000 in
set_option maxRecDepth 100000 in
theorem able_fail1 {c : Cf} {F : SM} {L : List S71} (h : Tie c F L) (A : Option Addr) (cap : Nat) (hc : L.length ≤ cap) (clk k wk op cn t dr er a b d : Int) (hF : F.at_ cn = (a, b, d)) (ho : op = 4) (ha : a = 1) (h1 : ¬ b ≥ c.c12) (w : World) (hr : Kd.C k71 w A L.length L) :
    Calls Try.prog 85 #[.agg (rbA c clk (.slice A L.length cap)), .agg (evA k wk op cn t dr er)] w fun e w' => e = .returned (.int .i64 (0)) ∧ Below w.heap.size w w' := by
  have hu1 := Try.underlying66
  have hu2 := Try.underlying71
  have hu3 := Try.underlying54
  have hu4 := Try.underlying33
  have CA := Aside0.mk (fun W hb => at_calls h A cap hc clk cn a b d hF w hr W hb)
  subst ho
  subst ha
  have g1 : decide (b ≥ c.c12) = false := decide_eq_false h1
  clear h hF hr hc
  go_enter Try.func85, Try.ntmps85
  go_wp2_with (go_at_call 43; (with_reducible refine (CA.out _ (by repeat (first | exact Below.refl _ _ | apply below_alloc))).mono ?_); rintro e w1 ⟨rfl, hb⟩; have n1 := Aside0.mk (show Below w.heap.size w w1 from below_step (by repeat (first | exact Below.refl _ _ | apply below_alloc)) hb); have n2 : w1.heap[w.heap.size]? = some (.cells (rbA c clk (.slice A L.length cap)) 66 (0, 0)) := blk_below (blk_alloc (blk_new w _) _) hb; have n3 : w1.heap[w.heap.size + 1]? = some (.cells (evA k wk 4 cn t dr er) 54 (0, 0)) := blk_below (by simpa using blk_new (w.alloc (.cells (rbA c clk (.slice A L.length cap)) 66)) (.cells (evA k wk 4 cn t dr er) 54)) hb; have hl1 := blk_lt n2; have hl2 := blk_lt n3; have hcb := fun i => blk_cell n2 i; have hce := fun i => blk_cell n3 i; clear hb n2 n3)
  go_ret
  exact ⟨rfl, by repeat (first | exact n1.out | apply below_alloc)⟩

set_option maxHeartbeats 4000000 in
set_option maxRecDepth 100000 in
theorem able_fail3_last {c : Cf} {F : SM} {L : List S71} (h : Tie c F L) (A : Option Addr) (cap : Nat) (hc : L.length ≤ cap) (clk k wk op cn t dr er a b d : Int) (hF : F.at_ cn = (a, b, d)) (ho : op = 4) (ha : a = 3) (h1 : b ≥ c.c12) (w : World) (hr : Kd.C k71 w A L.length L) :
    Calls Try.prog 85 #[.agg (rbA c clk (.slice A L.length cap)), .agg (evA k wk op cn t dr er)] w fun e w' => e = .returned (.int .i64 (5)) ∧ Below w.heap.size w w' := by
  have hu1 := Try.underlying66
  have hu2 := Try.underlying71
  have hu3 := Try.underlying54
  have hu4 := Try.underlying33
  have CA := Aside0.mk (fun W hb => at_calls h A cap hc clk cn a b d hF w hr W hb)
  subst ho
  subst ha
  have g1 : decide (b ≥ c.c12) = true := decide_eq_true h1
  clear h hF hr hc
  go_enter Try.func85, Try.ntmps85
  go_wp2_with (go_at_call 43; (with_reducible refine (CA.out _ (by repeat (first | exact Below.refl _ _ | apply below_alloc))).mono ?_); rintro e w1 ⟨rfl, hb⟩; have n1 := Aside0.mk (show Below w.heap.size w w1 from below_step (by repeat (first | exact Below.refl _ _ | apply below_alloc)) hb); have n2 : w1.heap[w.heap.size]? = some (.cells (rbA c clk (.slice A L.length cap)) 66 (0, 0)) := blk_below (blk_alloc (blk_new w _) _) hb; have n3 : w1.heap[w.heap.size + 1]? = some (.cells (evA k wk 4 cn t dr er) 54 (0, 0)) := blk_below (by simpa using blk_new (w.alloc (.cells (rbA c clk (.slice A L.length cap)) 66)) (.cells (evA k wk 4 cn t dr er) 54)) hb; have hl1 := blk_lt n2; have hl2 := blk_lt n3; have hcb := fun i => blk_cell n2 i; have hce := fun i => blk_cell n3 i; clear hb n2 n3)
  go_ret
  exact ⟨rfl, by repeat (first | exact n1.out | apply below_alloc)⟩

set_option maxHeartbeats 4000000 in
set_option maxRecDepth 100000 in
theorem able_fail3 {c : Cf} {F : SM} {L : List S71} (h : Tie c F L) (A : Option Addr) (cap : Nat) (hc : L.length ≤ cap) (clk k wk op cn t dr er a b d : Int) (hF : F.at_ cn = (a, b, d)) (ho : op = 4) (ha : a = 3) (h1 : ¬ b ≥ c.c12) (w : World) (hr : Kd.C k71 w A L.length L) :
    Calls Try.prog 85 #[.agg (rbA c clk (.slice A L.length cap)), .agg (evA k wk op cn t dr er)] w fun e w' => e = .returned (.int .i64 (0)) ∧ Below w.heap.size w w' := by
  have hu1 := Try.underlying66
  have hu2 := Try.underlying71
  have hu3 := Try.underlying54
  have hu4 := Try.underlying33
  have CA := Aside0.mk (fun W hb => at_calls h A cap hc clk cn a b d hF w hr W hb)
  subst ho
  subst ha
  have g1 : decide (b ≥ c.c12) = false := decide_eq_false h1
  clear h hF hr hc
  go_enter Try.func85, Try.ntmps85
  go_wp2_with (go_at_call 43; (with_reducible refine (CA.out _ (by repeat (first | exact Below.refl _ _ | apply below_alloc))).mono ?_); rintro e w1 ⟨rfl, hb⟩; have n1 := Aside0.mk (show Below w.heap.size w w1 from below_step (by repeat (first | exact Below.refl _ _ | apply below_alloc)) hb); have n2 : w1.heap[w.heap.size]? = some (.cells (rbA c clk (.slice A L.length cap)) 66 (0, 0)) := blk_below (blk_alloc (blk_new w _) _) hb; have n3 : w1.heap[w.heap.size + 1]? = some (.cells (evA k wk 4 cn t dr er) 54 (0, 0)) := blk_below (by simpa using blk_new (w.alloc (.cells (rbA c clk (.slice A L.length cap)) 66)) (.cells (evA k wk 4 cn t dr er) 54)) hb; have hl1 := blk_lt n2; have hl2 := blk_lt n3; have hcb := fun i => blk_cell n2 i; have hce := fun i => blk_cell n3 i; clear hb n2 n3)
  go_ret
  exact ⟨rfl, by repeat (first | exact n1.out | apply below_alloc)⟩

set_option maxHeartbeats 4000000 in
set_option maxRecDepth 100000 in
theorem able_fail_no {c : Cf} {F : SM} {L : List S71} (h : Tie c F L) (A : Option Addr) (cap : Nat) (hc : L.length ≤ cap) (clk k wk op cn t dr er a b d : Int) (hF : F.at_ cn = (a, b, d)) (ho : op = 4) (ha1 : ¬ a = 1) (ha3 : ¬ a = 3) (w : World) (hr : Kd.C k71 w A L.length L) :
    Calls Try.prog 85 #[.agg (rbA c clk (.slice A L.length cap)), .agg (evA k wk op cn t dr er)] w fun e w' => e = .returned (.int .i64 (-1)) ∧ Below w.heap.size w w' := by
  have hu1 := Try.underlying66
  have hu2 := Try.underlying71
  have hu3 := Try.underlying54
  have hu4 := Try.underlying33
  have CA := Aside0.mk (fun W hb => at_calls h A cap hc clk cn a b d hF w hr W hb)
  subst ho
  have ga1 : (a == 1) = false := beq_eq_false_iff_ne.2 ha1
  have fa1 : (a != 1) = true := bne_iff_ne.2 ha1
  have ga3 : (a == 3) = false := beq_eq_false_iff_ne.2 ha3
  have fa3 : (a != 3) = true := bne_iff_ne.2 ha3
  clear h hF hr hc
  go_enter Try.func85, Try.ntmps85
  go_wp2_with (go_at_call 43; (with_reducible refine (CA.out _ (by repeat (first | exact Below.refl _ _ | apply below_alloc))).mono ?_); rintro e w1 ⟨rfl, hb⟩; have n1 := Aside0.mk (show Below w.heap.size w w1 from below_step (by repeat (first | exact Below.refl _ _ | apply below_alloc)) hb); have n2 : w1.heap[w.heap.size]? = some (.cells (rbA c clk (.slice A L.length cap)) 66 (0, 0)) := blk_below (blk_alloc (blk_new w _) _) hb; have n3 : w1.heap[w.heap.size + 1]? = some (.cells (evA k wk 4 cn t dr er) 54 (0, 0)) := blk_below (by simpa using blk_new (w.alloc (.cells (rbA c clk (.slice A L.length cap)) 66)) (.cells (evA k wk 4 cn t dr er) 54)) hb; have hl1 := blk_lt n2; have hl2 := blk_lt n3; have hcb := fun i => blk_cell n2 i; have hce := fun i => blk_cell n3 i; clear hb n2 n3)
  go_ret
  exact ⟨rfl, by repeat (first | exact n1.out | apply below_alloc)⟩

set_option maxHeartbeats 4000000 in
set_option maxRecDepth 100000 in
theorem able_none {c : Cf} {F : SM} {L : List S71} (h : Tie c F L) (A : Option Addr) (cap : Nat) (hc : L.length ≤ cap) (clk k wk op cn t dr er a b d : Int) (hF : F.at_ cn = (a, b, d)) (hop1 : ¬ op = 1) (hop2 : ¬ op = 2) (hop3 : ¬ op = 3) (hop4 : ¬ op = 4) (hop5 : ¬ op = 5) (w : World) (hr : Kd.C k71 w A L.length L) :
    Calls Try.prog 85 #[.agg (rbA c clk (.slice A L.length cap)), .agg (evA k wk op cn t dr er)] w fun e w' => e = .returned (.int .i64 (-1)) ∧ Below w.heap.size w w' := by
  have hu1 := Try.underlying66
  have hu2 := Try.underlying71
  have hu3 := Try.underlying54
  have hu4 := Try.underlying33
  have CA := Aside0.mk (fun W hb => at_calls h A cap hc clk cn a b d hF w hr W hb)
  have gop1 : (op == 1) = false := beq_eq_false_iff_ne.2 hop1
  have fop1 : (op != 1) = true := bne_iff_ne.2 hop1
  have gop2 : (op == 2) = false := beq_eq_false_iff_ne.2 hop2
  have fop2 : (op != 2) = true := bne_iff_ne.2 hop2
  have gop3 : (op == 3) = false := beq_eq_false_iff_ne.2 hop3
  have fop3 : (op != 3) = true := bne_iff_ne.2 hop3
  have gop4 : (op == 4) = false := beq_eq_false_iff_ne.2 hop4
  have fop4 : (op != 4) = true := bne_iff_ne.2 hop4
  have gop5 : (op == 5) = false := beq_eq_false_iff_ne.2 hop5
  have fop5 : (op != 5) = true := bne_iff_ne.2 hop5
  clear h hF hr hc
  go_enter Try.func85, Try.ntmps85
  go_wp2_with (go_at_call 43; (with_reducible refine (CA.out _ (by repeat (first | exact Below.refl _ _ | apply below_alloc))).mono ?_); rintro e w1 ⟨rfl, hb⟩; have n1 := Aside0.mk (show Below w.heap.size w w1 from below_step (by repeat (first | exact Below.refl _ _ | apply below_alloc)) hb); have n2 : w1.heap[w.heap.size]? = some (.cells (rbA c clk (.slice A L.length cap)) 66 (0, 0)) := blk_below (blk_alloc (blk_new w _) _) hb; have n3 : w1.heap[w.heap.size + 1]? = some (.cells (evA k wk op cn t dr er) 54 (0, 0)) := blk_below (by simpa using blk_new (w.alloc (.cells (rbA c clk (.slice A L.length cap)) 66)) (.cells (evA k wk op cn t dr er) 54)) hb; have hl1 := blk_lt n2; have hl2 := blk_lt n3; have hcb := fun i => blk_cell n2 i; have hce := fun i => blk_cell n3 i; clear hb n2 n3)
  go_ret
  exact ⟨rfl, by repeat (first | exact n1.out | apply below_alloc)⟩

end Go.Proofs.Ythljanmfanppdaa.Bk
