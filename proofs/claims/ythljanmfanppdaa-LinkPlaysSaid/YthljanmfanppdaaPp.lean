/- What is proved: what knellref24.point does with the document's book, where it turns. -/
import Derived.Test.YthljanmfanppdaaPo
namespace Go.Proofs.Ythljanmfanppdaa.Bk
open Go.RowKit Go.Maps Go.Proofs.YthljanmfanppdaaW.PrintWords Go.Proofs.YthljanmfanppdaaW.PrintLast Go.Proofs.YthljanmfanppdaaW.PrintMore Go.Proofs.Ythljanmfanppdaa.KRf
set_option linter.unusedVariables false
set_option maxHeartbeats 8000000
set_option maxRecDepth 100000
open List (setIfInBounds_toArray set_cons_zero set_cons_succ)
set_option linter.unusedSimpArgs false

theorem point_open {c : Cf} {F : SM} {L : List S71} (h : Tie c F L) (hl : L.length ≤ 1000000) (A : Option Addr) (cap : Nat) (hc : L.length ≤ cap) (clk k wk op cn t dr er draw a b d : Int) (hF : F.at_ cn = (a, b, d)) (can : Int) (hcan : abI (afterF c F op cn t draw) = can) (h1 : er = can) (h2 : can = 0) (ho : op = 1) (hin : 0 ≤ cn ∧ cn < (L.length : Int)) (w : World) (hr : Kd.C k71 w A L.length L) :
    Calls Try.prog 68 #[.agg (rbA c clk (.slice A L.length cap)), .agg (evA k wk op cn t dr er), .int .i64 draw] w (PtPost c clk A cap L (L.set cn.toNat ⟨1, 0, t⟩) (0) w) := by
  have hu1 := Try.underlying66
  have hu2 := Try.underlying71
  have hu3 := Try.underlying54
  have hu4 := Try.underlying33
  have CAb := able_c h A cap hc clk k wk op cn t dr er draw hcan hr
  have e1 : (er == 1) = false := beq_eq_false_iff_ne.2 (by omega)
  have e3 : (er == 3) = false := beq_eq_false_iff_ne.2 (by omega)
  have e6 : (er == 6) = false := beq_eq_false_iff_ne.2 (by omega)
  have g1 : decide (can < 0) = false := decide_eq_false (by omega)
  have g2 : (can != er) = false := by simp [h1]
  have g3 : (can == 0) = true := beq_iff_eq.2 h2
  have o1 : (op == 1) = true := beq_iff_eq.2 (by omega)
  have o2 : (op == 2) = false := beq_eq_false_iff_ne.2 (by omega)
  have o4 : (op == 4) = false := beq_eq_false_iff_ne.2 (by omega)
  have o5 : (op == 5) = false := beq_eq_false_iff_ne.2 (by omega)
  have CAt := Aside0.mk (fun W hb => at_calls h A cap hc clk cn a b d hF w hr W hb)
  have CSt := Aside0.mk (fun W hb => rset_calls hl c clk A cap hc cn (1) (0) (t) hin.1 hin.2 w hr W hb)
  have HR := Aside0.mk hr
  have HC := Aside0.mk hc
  have HS := Aside0.mk (H3.start w c clk (.slice A L.length cap) (evA k wk op cn t dr er))
  clear h hr hcan hF hc hl h1 h2 ho hin
  go_enter Try.func68, Try.ntmps68
  go_wp2_with (first | (go_at_call 85; (with_reducible refine (CAb.out _ HS.out.below).mono ?_); rintro e w1 ⟨rfl, hb⟩; have H1 := Aside0.mk (HS.out.step hb); have hl1 := blk_lt H1.out.b; have hl2 := blk_lt H1.out.e; have hl3 := blk_lt H1.out.r; have hcb := fun i => blk_cell H1.out.b i; have hce := fun i => blk_cell H1.out.e i; clear hb) | (go_at_call 43; (with_reducible refine (CAt.out _ H1.out.below).mono ?_); rintro e w2 ⟨rfl, hb⟩; have H2 := Aside0.mk (H1.out.step hb); clear hl1 hl2 hl3 hcb hce; have hl1 := blk_lt H2.out.b; have hl2 := blk_lt H2.out.e; have hl3 := blk_lt H2.out.r; have hcb := fun i => blk_cell H2.out.b i; have hce := fun i => blk_cell H2.out.e i; clear hb) | (go_at_call 69; (with_reducible refine (CSt.out _ (H2.out.alloc _).below).mono ?_); rintro e w3 ⟨A9, cap9, rfl, hR9, hb⟩; have H4 := Aside0.mk ((H2.out.alloc _).step hb); have HC9 := Aside0.mk (Kd.R_lower hR9 (H2.out.alloc _).below.size); clear hl1 hl2 hl3 hcb hce; have hl1 := blk_lt H4.out.b; have hl2 := blk_lt H4.out.e; have hl3 := blk_lt H4.out.r; have hcb := fun i => blk_cell H4.out.b i; have hce := fun i => blk_cell H4.out.e i; clear hb hR9) | ((with_reducible refine gate_store (t := 66) (p := 6) rfl ?_); refine wpList_store_row rfl 66 _ _ rfl (w.heap.size + 1 + 1) (rbA c clk (.slice A9 L.length cap9)) rfl rfl 66 _ H4.out.r (by kernel_rfl) (by kernel_rfl) (by kernel_rfl) ?_; have HP := Aside0.mk (H4.out.put (rbA c clk (.slice A9 L.length cap9))); have HC9P := Aside0.mk (R_row (cs' := (rbA c clk (.slice A9 L.length cap9))) HC9.out H4.out.r)))
  have hr9 := HP.out.r
  refine bodyPost_ret (v := .tuple #[.agg (rbA c clk (.slice A9 L.length cap9)), .int .i64 0]) ?_ rfl ⟨A9, cap9, ?_, ?_, ?_, HP.out.below⟩
  · have hrow := run_loadVar_row (P := Try.prog) _ (w.heap.size + 1 + 1) 66 66 _ (0, 0) _ hr9 hu1 rfl bk_desc
    simp [results, Try.results68, asAddr, hrow]
  · rw [List.length_set]
  · rw [List.length_set]; exact (R_out HC9P.out).2.1
  · exact .inr (by rw [List.length_set]; exact Kd.R_mono HC9P.out (fun _ _ => trivial))

theorem point_success {c : Cf} {F : SM} {L : List S71} (h : Tie c F L) (hl : L.length ≤ 1000000) (A : Option Addr) (cap : Nat) (hc : L.length ≤ cap) (clk k wk op cn t dr er draw a b d : Int) (hF : F.at_ cn = (a, b, d)) (can : Int) (hcan : abI (afterF c F op cn t draw) = can) (h1 : er = can) (h2 : can = 0) (ho : op = 5) (hin : 0 ≤ cn ∧ cn < (L.length : Int)) (w : World) (hr : Kd.C k71 w A L.length L) :
    Calls Try.prog 68 #[.agg (rbA c clk (.slice A L.length cap)), .agg (evA k wk op cn t dr er), .int .i64 draw] w (PtPost c clk A cap L (L.set cn.toNat ⟨1, 0, t⟩) (0) w) := by
  have hu1 := Try.underlying66
  have hu2 := Try.underlying71
  have hu3 := Try.underlying54
  have hu4 := Try.underlying33
  have CAb := able_c h A cap hc clk k wk op cn t dr er draw hcan hr
  have e1 : (er == 1) = false := beq_eq_false_iff_ne.2 (by omega)
  have e3 : (er == 3) = false := beq_eq_false_iff_ne.2 (by omega)
  have e6 : (er == 6) = false := beq_eq_false_iff_ne.2 (by omega)
  have g1 : decide (can < 0) = false := decide_eq_false (by omega)
  have g2 : (can != er) = false := by simp [h1]
  have g3 : (can == 0) = true := beq_iff_eq.2 h2
  have o1 : (op == 1) = false := beq_eq_false_iff_ne.2 (by omega)
  have o2 : (op == 2) = false := beq_eq_false_iff_ne.2 (by omega)
  have o4 : (op == 4) = false := beq_eq_false_iff_ne.2 (by omega)
  have o5 : (op == 5) = true := beq_iff_eq.2 (by omega)
  have CAt := Aside0.mk (fun W hb => at_calls h A cap hc clk cn a b d hF w hr W hb)
  have CSt := Aside0.mk (fun W hb => rset_calls hl c clk A cap hc cn (1) (0) (t) hin.1 hin.2 w hr W hb)
  have HR := Aside0.mk hr
  have HC := Aside0.mk hc
  have HS := Aside0.mk (H3.start w c clk (.slice A L.length cap) (evA k wk op cn t dr er))
  clear h hr hcan hF hc hl h1 h2 ho hin
  go_enter Try.func68, Try.ntmps68
  go_wp2_with (first | (go_at_call 85; (with_reducible refine (CAb.out _ HS.out.below).mono ?_); rintro e w1 ⟨rfl, hb⟩; have H1 := Aside0.mk (HS.out.step hb); have hl1 := blk_lt H1.out.b; have hl2 := blk_lt H1.out.e; have hl3 := blk_lt H1.out.r; have hcb := fun i => blk_cell H1.out.b i; have hce := fun i => blk_cell H1.out.e i; clear hb) | (go_at_call 43; (with_reducible refine (CAt.out _ H1.out.below).mono ?_); rintro e w2 ⟨rfl, hb⟩; have H2 := Aside0.mk (H1.out.step hb); clear hl1 hl2 hl3 hcb hce; have hl1 := blk_lt H2.out.b; have hl2 := blk_lt H2.out.e; have hl3 := blk_lt H2.out.r; have hcb := fun i => blk_cell H2.out.b i; have hce := fun i => blk_cell H2.out.e i; clear hb) | (go_at_call 69; (with_reducible refine (CSt.out _ (H2.out.alloc _).below).mono ?_); rintro e w3 ⟨A9, cap9, rfl, hR9, hb⟩; have H4 := Aside0.mk ((H2.out.alloc _).step hb); have HC9 := Aside0.mk (Kd.R_lower hR9 (H2.out.alloc _).below.size); clear hl1 hl2 hl3 hcb hce; have hl1 := blk_lt H4.out.b; have hl2 := blk_lt H4.out.e; have hl3 := blk_lt H4.out.r; have hcb := fun i => blk_cell H4.out.b i; have hce := fun i => blk_cell H4.out.e i; clear hb hR9) | ((with_reducible refine gate_store (t := 66) (p := 6) rfl ?_); refine wpList_store_row rfl 66 _ _ rfl (w.heap.size + 1 + 1) (rbA c clk (.slice A9 L.length cap9)) rfl rfl 66 _ H4.out.r (by kernel_rfl) (by kernel_rfl) (by kernel_rfl) ?_; have HP := Aside0.mk (H4.out.put (rbA c clk (.slice A9 L.length cap9))); have HC9P := Aside0.mk (R_row (cs' := (rbA c clk (.slice A9 L.length cap9))) HC9.out H4.out.r)))
  have hr9 := HP.out.r
  refine bodyPost_ret (v := .tuple #[.agg (rbA c clk (.slice A9 L.length cap9)), .int .i64 0]) ?_ rfl ⟨A9, cap9, ?_, ?_, ?_, HP.out.below⟩
  · have hrow := run_loadVar_row (P := Try.prog) _ (w.heap.size + 1 + 1) 66 66 _ (0, 0) _ hr9 hu1 rfl bk_desc
    simp [results, Try.results68, asAddr, hrow]
  · rw [List.length_set]
  · rw [List.length_set]; exact (R_out HC9P.out).2.1
  · exact .inr (by rw [List.length_set]; exact Kd.R_mono HC9P.out (fun _ _ => trivial))

theorem point_touch_a {c : Cf} {F : SM} {L : List S71} (h : Tie c F L) (hl : L.length ≤ 1000000) (A : Option Addr) (cap : Nat) (hc : L.length ≤ cap) (clk k wk op cn t dr er draw a b d : Int) (hF : F.at_ cn = (a, b, d)) (can : Int) (hcan : abI (afterF c F op cn t draw) = can) (h1 : er = can) (h2 : can = 0) (ho : op = 2) (hd : t > d) (hin : 0 ≤ cn ∧ cn < (L.length : Int)) (w : World) (hr : Kd.C k71 w A L.length L) :
    Calls Try.prog 68 #[.agg (rbA c clk (.slice A L.length cap)), .agg (evA k wk op cn t dr er), .int .i64 draw] w (PtPost c clk A cap L (L.set cn.toNat ⟨a, b, t⟩) (0) w) := by
  have hu1 := Try.underlying66
  have hu2 := Try.underlying71
  have hu3 := Try.underlying54
  have hu4 := Try.underlying33
  have CAb := able_c h A cap hc clk k wk op cn t dr er draw hcan hr
  have e1 : (er == 1) = false := beq_eq_false_iff_ne.2 (by omega)
  have e3 : (er == 3) = false := beq_eq_false_iff_ne.2 (by omega)
  have e6 : (er == 6) = false := beq_eq_false_iff_ne.2 (by omega)
  have g1 : decide (can < 0) = false := decide_eq_false (by omega)
  have g2 : (can != er) = false := by simp [h1]
  have g3 : (can == 0) = true := beq_iff_eq.2 h2
  have o1 : (op == 1) = false := beq_eq_false_iff_ne.2 (by omega)
  have o2 : (op == 2) = true := beq_iff_eq.2 (by omega)
  have o4 : (op == 4) = false := beq_eq_false_iff_ne.2 (by omega)
  have o5 : (op == 5) = false := beq_eq_false_iff_ne.2 (by omega)
  have gd : decide (t > d) = true := decide_eq_true hd
  have CAt := Aside0.mk (fun W hb => at_calls h A cap hc clk cn a b d hF w hr W hb)
  have CSt := Aside0.mk (fun W hb => rset_calls hl c clk A cap hc cn (a) (b) (t) hin.1 hin.2 w hr W hb)
  have HR := Aside0.mk hr
  have HC := Aside0.mk hc
  have HS := Aside0.mk (H3.start w c clk (.slice A L.length cap) (evA k wk op cn t dr er))
  clear h hr hcan hF hc hl h1 h2 ho hd hin
  go_enter Try.func68, Try.ntmps68
  go_wp2_with (first | (go_at_call 85; (with_reducible refine (CAb.out _ HS.out.below).mono ?_); rintro e w1 ⟨rfl, hb⟩; have H1 := Aside0.mk (HS.out.step hb); have hl1 := blk_lt H1.out.b; have hl2 := blk_lt H1.out.e; have hl3 := blk_lt H1.out.r; have hcb := fun i => blk_cell H1.out.b i; have hce := fun i => blk_cell H1.out.e i; clear hb) | (go_at_call 43; (with_reducible refine (CAt.out _ H1.out.below).mono ?_); rintro e w2 ⟨rfl, hb⟩; have H2 := Aside0.mk (H1.out.step hb); clear hl1 hl2 hl3 hcb hce; have hl1 := blk_lt H2.out.b; have hl2 := blk_lt H2.out.e; have hl3 := blk_lt H2.out.r; have hcb := fun i => blk_cell H2.out.b i; have hce := fun i => blk_cell H2.out.e i; clear hb) | (go_at_call 69; (with_reducible refine (CSt.out _ (H2.out.alloc _).below).mono ?_); rintro e w3 ⟨A9, cap9, rfl, hR9, hb⟩; have H4 := Aside0.mk ((H2.out.alloc _).step hb); have HC9 := Aside0.mk (Kd.R_lower hR9 (H2.out.alloc _).below.size); clear hl1 hl2 hl3 hcb hce; have hl1 := blk_lt H4.out.b; have hl2 := blk_lt H4.out.e; have hl3 := blk_lt H4.out.r; have hcb := fun i => blk_cell H4.out.b i; have hce := fun i => blk_cell H4.out.e i; clear hb hR9) | ((with_reducible refine gate_store (t := 66) (p := 6) rfl ?_); refine wpList_store_row rfl 66 _ _ rfl (w.heap.size + 1 + 1) (rbA c clk (.slice A9 L.length cap9)) rfl rfl 66 _ H4.out.r (by kernel_rfl) (by kernel_rfl) (by kernel_rfl) ?_; have HP := Aside0.mk (H4.out.put (rbA c clk (.slice A9 L.length cap9))); have HC9P := Aside0.mk (R_row (cs' := (rbA c clk (.slice A9 L.length cap9))) HC9.out H4.out.r)))
  have hr9 := HP.out.r
  refine bodyPost_ret (v := .tuple #[.agg (rbA c clk (.slice A9 L.length cap9)), .int .i64 0]) ?_ rfl ⟨A9, cap9, ?_, ?_, ?_, HP.out.below⟩
  · have hrow := run_loadVar_row (P := Try.prog) _ (w.heap.size + 1 + 1) 66 66 _ (0, 0) _ hr9 hu1 rfl bk_desc
    simp [results, Try.results68, asAddr, hrow]
  · rw [List.length_set]
  · rw [List.length_set]; exact (R_out HC9P.out).2.1
  · exact .inr (by rw [List.length_set]; exact Kd.R_mono HC9P.out (fun _ _ => trivial))

theorem point_touch_b {c : Cf} {F : SM} {L : List S71} (h : Tie c F L) (hl : L.length ≤ 1000000) (A : Option Addr) (cap : Nat) (hc : L.length ≤ cap) (clk k wk op cn t dr er draw a b d : Int) (hF : F.at_ cn = (a, b, d)) (can : Int) (hcan : abI (afterF c F op cn t draw) = can) (h1 : er = can) (h2 : can = 0) (ho : op = 2) (hd : ¬ t > d) (hin : 0 ≤ cn ∧ cn < (L.length : Int)) (w : World) (hr : Kd.C k71 w A L.length L) :
    Calls Try.prog 68 #[.agg (rbA c clk (.slice A L.length cap)), .agg (evA k wk op cn t dr er), .int .i64 draw] w (PtPost c clk A cap L (L.set cn.toNat ⟨a, b, d⟩) (0) w) := by
  have hu1 := Try.underlying66
  have hu2 := Try.underlying71
  have hu3 := Try.underlying54
  have hu4 := Try.underlying33
  have CAb := able_c h A cap hc clk k wk op cn t dr er draw hcan hr
  have e1 : (er == 1) = false := beq_eq_false_iff_ne.2 (by omega)
  have e3 : (er == 3) = false := beq_eq_false_iff_ne.2 (by omega)
  have e6 : (er == 6) = false := beq_eq_false_iff_ne.2 (by omega)
  have g1 : decide (can < 0) = false := decide_eq_false (by omega)
  have g2 : (can != er) = false := by simp [h1]
  have g3 : (can == 0) = true := beq_iff_eq.2 h2
  have o1 : (op == 1) = false := beq_eq_false_iff_ne.2 (by omega)
  have o2 : (op == 2) = true := beq_iff_eq.2 (by omega)
  have o4 : (op == 4) = false := beq_eq_false_iff_ne.2 (by omega)
  have o5 : (op == 5) = false := beq_eq_false_iff_ne.2 (by omega)
  have gd : decide (t > d) = false := decide_eq_false hd
  have CAt := Aside0.mk (fun W hb => at_calls h A cap hc clk cn a b d hF w hr W hb)
  have CSt := Aside0.mk (fun W hb => rset_calls hl c clk A cap hc cn (a) (b) (d) hin.1 hin.2 w hr W hb)
  have HR := Aside0.mk hr
  have HC := Aside0.mk hc
  have HS := Aside0.mk (H3.start w c clk (.slice A L.length cap) (evA k wk op cn t dr er))
  clear h hr hcan hF hc hl h1 h2 ho hd hin
  go_enter Try.func68, Try.ntmps68
  go_wp2_with (first | (go_at_call 85; (with_reducible refine (CAb.out _ HS.out.below).mono ?_); rintro e w1 ⟨rfl, hb⟩; have H1 := Aside0.mk (HS.out.step hb); have hl1 := blk_lt H1.out.b; have hl2 := blk_lt H1.out.e; have hl3 := blk_lt H1.out.r; have hcb := fun i => blk_cell H1.out.b i; have hce := fun i => blk_cell H1.out.e i; clear hb) | (go_at_call 43; (with_reducible refine (CAt.out _ H1.out.below).mono ?_); rintro e w2 ⟨rfl, hb⟩; have H2 := Aside0.mk (H1.out.step hb); clear hl1 hl2 hl3 hcb hce; have hl1 := blk_lt H2.out.b; have hl2 := blk_lt H2.out.e; have hl3 := blk_lt H2.out.r; have hcb := fun i => blk_cell H2.out.b i; have hce := fun i => blk_cell H2.out.e i; clear hb) | (go_at_call 69; (with_reducible refine (CSt.out _ (H2.out.alloc _).below).mono ?_); rintro e w3 ⟨A9, cap9, rfl, hR9, hb⟩; have H4 := Aside0.mk ((H2.out.alloc _).step hb); have HC9 := Aside0.mk (Kd.R_lower hR9 (H2.out.alloc _).below.size); clear hl1 hl2 hl3 hcb hce; have hl1 := blk_lt H4.out.b; have hl2 := blk_lt H4.out.e; have hl3 := blk_lt H4.out.r; have hcb := fun i => blk_cell H4.out.b i; have hce := fun i => blk_cell H4.out.e i; clear hb hR9) | ((with_reducible refine gate_store (t := 66) (p := 6) rfl ?_); refine wpList_store_row rfl 66 _ _ rfl (w.heap.size + 1 + 1) (rbA c clk (.slice A9 L.length cap9)) rfl rfl 66 _ H4.out.r (by kernel_rfl) (by kernel_rfl) (by kernel_rfl) ?_; have HP := Aside0.mk (H4.out.put (rbA c clk (.slice A9 L.length cap9))); have HC9P := Aside0.mk (R_row (cs' := (rbA c clk (.slice A9 L.length cap9))) HC9.out H4.out.r)))
  have hr9 := HP.out.r
  refine bodyPost_ret (v := .tuple #[.agg (rbA c clk (.slice A9 L.length cap9)), .int .i64 0]) ?_ rfl ⟨A9, cap9, ?_, ?_, ?_, HP.out.below⟩
  · have hrow := run_loadVar_row (P := Try.prog) _ (w.heap.size + 1 + 1) 66 66 _ (0, 0) _ hr9 hu1 rfl bk_desc
    simp [results, Try.results68, asAddr, hrow]
  · rw [List.length_set]
  · rw [List.length_set]; exact (R_out HC9P.out).2.1
  · exact .inr (by rw [List.length_set]; exact Kd.R_mono HC9P.out (fun _ _ => trivial))

theorem point_fail_last {c : Cf} {F : SM} {L : List S71} (h : Tie c F L) (hl : L.length ≤ 1000000) (A : Option Addr) (cap : Nat) (hc : L.length ≤ cap) (clk k wk op cn t dr er draw a b d : Int) (hF : F.at_ cn = (a, b, d)) (can : Int) (hcan : abI (afterF c F op cn t draw) = can) (h1 : er = can) (h2 : can = 5) (ho : op = 4) (hin : 0 ≤ cn ∧ cn < (L.length : Int)) (w : World) (hr : Kd.C k71 w A L.length L) :
    Calls Try.prog 68 #[.agg (rbA c clk (.slice A L.length cap)), .agg (evA k wk op cn t dr er), .int .i64 draw] w (PtPost c clk A cap L (L.set cn.toNat ⟨0, 0, 0⟩) (0) w) := by
  have hu1 := Try.underlying66
  have hu2 := Try.underlying71
  have hu3 := Try.underlying54
  have hu4 := Try.underlying33
  have CAb := able_c h A cap hc clk k wk op cn t dr er draw hcan hr
  have e1 : (er == 1) = false := beq_eq_false_iff_ne.2 (by omega)
  have e3 : (er == 3) = false := beq_eq_false_iff_ne.2 (by omega)
  have e6 : (er == 6) = false := beq_eq_false_iff_ne.2 (by omega)
  have g1 : decide (can < 0) = false := decide_eq_false (by omega)
  have g2 : (can != er) = false := by simp [h1]
  have g3 : (can == 0) = false := beq_eq_false_iff_ne.2 (by omega)
  have o1 : (op == 1) = false := beq_eq_false_iff_ne.2 (by omega)
  have o2 : (op == 2) = false := beq_eq_false_iff_ne.2 (by omega)
  have o4 : (op == 4) = true := beq_iff_eq.2 (by omega)
  have o5 : (op == 5) = false := beq_eq_false_iff_ne.2 (by omega)
  have CAt := Aside0.mk (fun W hb => at_calls h A cap hc clk cn a b d hF w hr W hb)
  have CSt := Aside0.mk (fun W hb => rset_calls hl c clk A cap hc cn (0) (0) (0) hin.1 hin.2 w hr W hb)
  have HR := Aside0.mk hr
  have HC := Aside0.mk hc
  have HS := Aside0.mk (H3.start w c clk (.slice A L.length cap) (evA k wk op cn t dr er))
  clear h hr hcan hF hc hl h1 h2 ho hin
  go_enter Try.func68, Try.ntmps68
  go_wp2_with (first | (go_at_call 85; (with_reducible refine (CAb.out _ HS.out.below).mono ?_); rintro e w1 ⟨rfl, hb⟩; have H1 := Aside0.mk (HS.out.step hb); have hl1 := blk_lt H1.out.b; have hl2 := blk_lt H1.out.e; have hl3 := blk_lt H1.out.r; have hcb := fun i => blk_cell H1.out.b i; have hce := fun i => blk_cell H1.out.e i; clear hb) | (go_at_call 43; (with_reducible refine (CAt.out _ H1.out.below).mono ?_); rintro e w2 ⟨rfl, hb⟩; have H2 := Aside0.mk (H1.out.step hb); clear hl1 hl2 hl3 hcb hce; have hl1 := blk_lt H2.out.b; have hl2 := blk_lt H2.out.e; have hl3 := blk_lt H2.out.r; have hcb := fun i => blk_cell H2.out.b i; have hce := fun i => blk_cell H2.out.e i; clear hb) | (go_at_call 69; (with_reducible refine (CSt.out _ (H2.out.alloc _).below).mono ?_); rintro e w3 ⟨A9, cap9, rfl, hR9, hb⟩; have H4 := Aside0.mk ((H2.out.alloc _).step hb); have HC9 := Aside0.mk (Kd.R_lower hR9 (H2.out.alloc _).below.size); clear hl1 hl2 hl3 hcb hce; have hl1 := blk_lt H4.out.b; have hl2 := blk_lt H4.out.e; have hl3 := blk_lt H4.out.r; have hcb := fun i => blk_cell H4.out.b i; have hce := fun i => blk_cell H4.out.e i; clear hb hR9) | ((with_reducible refine gate_store (t := 66) (p := 6) rfl ?_); refine wpList_store_row rfl 66 _ _ rfl (w.heap.size + 1 + 1) (rbA c clk (.slice A9 L.length cap9)) rfl rfl 66 _ H4.out.r (by kernel_rfl) (by kernel_rfl) (by kernel_rfl) ?_; have HP := Aside0.mk (H4.out.put (rbA c clk (.slice A9 L.length cap9))); have HC9P := Aside0.mk (R_row (cs' := (rbA c clk (.slice A9 L.length cap9))) HC9.out H4.out.r)))
  have hr9 := HP.out.r
  refine bodyPost_ret (v := .tuple #[.agg (rbA c clk (.slice A9 L.length cap9)), .int .i64 0]) ?_ rfl ⟨A9, cap9, ?_, ?_, ?_, HP.out.below⟩
  · have hrow := run_loadVar_row (P := Try.prog) _ (w.heap.size + 1 + 1) 66 66 _ (0, 0) _ hr9 hu1 rfl bk_desc
    simp [results, Try.results68, asAddr, hrow]
  · rw [List.length_set]
  · rw [List.length_set]; exact (R_out HC9P.out).2.1
  · exact .inr (by rw [List.length_set]; exact Kd.R_mono HC9P.out (fun _ _ => trivial))

theorem point_close {c : Cf} {F : SM} {L : List S71} (h : Tie c F L) (hl : L.length ≤ 1000000) (A : Option Addr) (cap : Nat) (hc : L.length ≤ cap) (clk k wk op cn t dr er draw a b d : Int) (hF : F.at_ cn = (a, b, d)) (can : Int) (hcan : abI (afterF c F op cn t draw) = can) (h1 : er = can) (h2 : can = 0) (ho : op = 3) (hin : 0 ≤ cn ∧ cn < (L.length : Int)) (w : World) (hr : Kd.C k71 w A L.length L) :
    Calls Try.prog 68 #[.agg (rbA c clk (.slice A L.length cap)), .agg (evA k wk op cn t dr er), .int .i64 draw] w (PtPost c clk A cap L (L.set cn.toNat ⟨0, 0, 0⟩) (0) w) := by
  have hu1 := Try.underlying66
  have hu2 := Try.underlying71
  have hu3 := Try.underlying54
  have hu4 := Try.underlying33
  have CAb := able_c h A cap hc clk k wk op cn t dr er draw hcan hr
  have e1 : (er == 1) = false := beq_eq_false_iff_ne.2 (by omega)
  have e3 : (er == 3) = false := beq_eq_false_iff_ne.2 (by omega)
  have e6 : (er == 6) = false := beq_eq_false_iff_ne.2 (by omega)
  have g1 : decide (can < 0) = false := decide_eq_false (by omega)
  have g2 : (can != er) = false := by simp [h1]
  have g3 : (can == 0) = true := beq_iff_eq.2 h2
  have o1 : (op == 1) = false := beq_eq_false_iff_ne.2 (by omega)
  have o2 : (op == 2) = false := beq_eq_false_iff_ne.2 (by omega)
  have o4 : (op == 4) = false := beq_eq_false_iff_ne.2 (by omega)
  have o5 : (op == 5) = false := beq_eq_false_iff_ne.2 (by omega)
  have CAt := Aside0.mk (fun W hb => at_calls h A cap hc clk cn a b d hF w hr W hb)
  have CSt := Aside0.mk (fun W hb => rset_calls hl c clk A cap hc cn (0) (0) (0) hin.1 hin.2 w hr W hb)
  have HR := Aside0.mk hr
  have HC := Aside0.mk hc
  have HS := Aside0.mk (H3.start w c clk (.slice A L.length cap) (evA k wk op cn t dr er))
  clear h hr hcan hF hc hl h1 h2 ho hin
  go_enter Try.func68, Try.ntmps68
  go_wp2_with (first | (go_at_call 85; (with_reducible refine (CAb.out _ HS.out.below).mono ?_); rintro e w1 ⟨rfl, hb⟩; have H1 := Aside0.mk (HS.out.step hb); have hl1 := blk_lt H1.out.b; have hl2 := blk_lt H1.out.e; have hl3 := blk_lt H1.out.r; have hcb := fun i => blk_cell H1.out.b i; have hce := fun i => blk_cell H1.out.e i; clear hb) | (go_at_call 43; (with_reducible refine (CAt.out _ H1.out.below).mono ?_); rintro e w2 ⟨rfl, hb⟩; have H2 := Aside0.mk (H1.out.step hb); clear hl1 hl2 hl3 hcb hce; have hl1 := blk_lt H2.out.b; have hl2 := blk_lt H2.out.e; have hl3 := blk_lt H2.out.r; have hcb := fun i => blk_cell H2.out.b i; have hce := fun i => blk_cell H2.out.e i; clear hb) | (go_at_call 69; (with_reducible refine (CSt.out _ (H2.out.alloc _).below).mono ?_); rintro e w3 ⟨A9, cap9, rfl, hR9, hb⟩; have H4 := Aside0.mk ((H2.out.alloc _).step hb); have HC9 := Aside0.mk (Kd.R_lower hR9 (H2.out.alloc _).below.size); clear hl1 hl2 hl3 hcb hce; have hl1 := blk_lt H4.out.b; have hl2 := blk_lt H4.out.e; have hl3 := blk_lt H4.out.r; have hcb := fun i => blk_cell H4.out.b i; have hce := fun i => blk_cell H4.out.e i; clear hb hR9) | ((with_reducible refine gate_store (t := 66) (p := 6) rfl ?_); refine wpList_store_row rfl 66 _ _ rfl (w.heap.size + 1 + 1) (rbA c clk (.slice A9 L.length cap9)) rfl rfl 66 _ H4.out.r (by kernel_rfl) (by kernel_rfl) (by kernel_rfl) ?_; have HP := Aside0.mk (H4.out.put (rbA c clk (.slice A9 L.length cap9))); have HC9P := Aside0.mk (R_row (cs' := (rbA c clk (.slice A9 L.length cap9))) HC9.out H4.out.r)))
  have hr9 := HP.out.r
  refine bodyPost_ret (v := .tuple #[.agg (rbA c clk (.slice A9 L.length cap9)), .int .i64 0]) ?_ rfl ⟨A9, cap9, ?_, ?_, ?_, HP.out.below⟩
  · have hrow := run_loadVar_row (P := Try.prog) _ (w.heap.size + 1 + 1) 66 66 _ (0, 0) _ hr9 hu1 rfl bk_desc
    simp [results, Try.results68, asAddr, hrow]
  · rw [List.length_set]
  · rw [List.length_set]; exact (R_out HC9P.out).2.1
  · exact .inr (by rw [List.length_set]; exact Kd.R_mono HC9P.out (fun _ _ => trivial))
end Go.Proofs.Ythljanmfanppdaa.Bk
