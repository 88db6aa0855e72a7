/- What is proved: what knellref24.point does with the document's book. -/
import Derived.Test.YthljanmfanppdaaAc
import Derived.Test.YthljanmfanppdaaKBackx4
import Derived.Deep.RegionHeld3
import Derived.Test.YthljanmfanppdaaWLast
import Derived.Test.YthljanmfanppdaaWTab
namespace Go.Proofs.Ythljanmfanppdaa.Bk
open Go.RowKit Go.Maps Go.Proofs.YthljanmfanppdaaW.PrintWords Go.Proofs.YthljanmfanppdaaW.PrintLast Go.Proofs.YthljanmfanppdaaW.PrintMore Go.Proofs.Ythljanmfanppdaa.KRf
set_option linter.unusedVariables false
set_option maxHeartbeats 8000000
set_option maxRecDepth 100000
open List (setIfInBounds_toArray set_cons_zero set_cons_succ)
set_option linter.unusedSimpArgs false
/-- The document's book, handed back. -/
def PtPost (c : Cf) (clk : Int) (A0 : Option Addr) (cap0 : Nat) (L0 L : List S71) (code : Int) (w : World) (e : Ending) (w' : World) : Prop := ∃ A cap, e = .returned (.tuple #[.agg (rbA c clk (.slice A L.length cap)), .int .i64 code]) ∧ L.length ≤ cap ∧ ((A = A0 ∧ cap = cap0 ∧ L = L0) ∨ Kd.R k71 71 w' w.heap.size (fun _ => True) (.slice A L.length cap) L) ∧ Below w.heap.size w w'
theorem rset_calls {L : List S71} (hl : L.length ≤ 1000000) (c : Cf) (clk : Int) (A : Option Addr) (cap : Nat) (hc : L.length ≤ cap) (x u v t : Int) (h0 : 0 ≤ x) (h1 : x < (L.length : Int)) (w : World) (hr : Kd.C k71 w A L.length L) (W : World) (hb : Below w.heap.size w W) :
    Calls Try.prog 69 #[.agg (rbA c clk (.slice A L.length cap)), .int .i64 x, .agg #[.int .i64 u, .int .i64 v, .int .i64 t]] W fun e w' => ∃ A' cap', e = .returned (.agg (rbA c clk (.slice A' L.length cap'))) ∧ Kd.R k71 71 w' W.heap.size (fun _ => True) (.slice A' L.length cap') (L.set x.toNat ⟨u, v, t⟩) ∧ Below W.heap.size W w' := by
  refine (knellref24_set.calls _ _ _ _ _ _ _ _ _ _ _ _ _ _ A cap L x u v t _ _ _ _ _ _ _ _ _ _ _ _ _ _ _ W (Kd.C_below hr hb) hc (set_is c.c0 c.c1 c.c2 c.c3 c.c4 c.c5 c.c6 c.c7 c.c8 c.c9 c.c10 c.c11 c.c12 clk x u v t L (by omega) h0 h1)).mono ?_
  rintro e w' ⟨v14, he, hR, hb2⟩
  obtain ⟨A', cap', rfl⟩ := Kd.R_slice hR
  rw [List.length_set] at he hR
  exact ⟨A', cap', he, hR, hb2⟩
/-- A row stays when the result is stored. -/
theorem R_row {W : World} {g base : Nat} {cs cs' : Array Value} {v : Value} {L : List S71} (h : Kd.R k71 71 W base (fun _ => True) v L) (hb : W.heap[g]? = some (.cells cs 66 (0, 0))) : Kd.R k71 71 (W.setRow g cs') base (fun k => True ∧ k ≠ g) v L :=
  Kd.R_step (Kd.R_types h hb (by decide)) (fun k hk _ => Go.setRow_other W g k cs' hk.2)
theorem R_out {W : World} {A : Option Addr} {n cap base : Nat} {ok : Nat → Prop} {L : List S71} (h : Kd.R k71 71 W base ok (.slice A n cap) L) : n = L.length ∧ n ≤ cap ∧ Kd.C k71 W A L.length L := Kd.R_reads' h
theorem rdue_calls (c : Cf) (now att draw : Int) (W : World) : Calls Try.prog 30 #[.agg c.cells, .int .i64 now, .int .i64 att, .int .i64 draw] W fun e w' => e = .returned (.int .i64 (dueI c now att draw)) ∧ Below W.heap.size W w' :=
  KBack.knellref23_Due.calls 40 _ _ _ _ _ _ _ _ _ _ _ _ _ now att draw _ W (PureLk.rdue_is _ _ _ _ _ _ _ _ _ _ _ _ _ now att draw 40 (Nat.le_refl _))
/-- What a walk of point carries: the argument's block, the event's, the result's. -/
structure H3 (w W : World) (c : Cf) (clk : Int) (v : Value) (ev rs : Array Value) : Prop where
  below : Below w.heap.size w W
  b : W.heap[w.heap.size]? = some (.cells (rbA c clk v) 66 (0, 0))
  e : W.heap[w.heap.size + 1]? = some (.cells ev 54 (0, 0))
  r : W.heap[w.heap.size + 1 + 1]? = some (.cells rs 66 (0, 0))
abbrev rb0 : Array Value := #[.int .i64 0, .int .i64 0, .int .i64 0, .int .i64 0, .int .i64 0, .int .i64 0, .int .i64 0, .int .i64 0, .int .i64 0, .int .i64 0, .int .i64 0, .int .i64 0, .int .i64 0, .int .i64 0, .slice none 0 0]
section
variable {w W W1 : World} {c : Cf} {clk : Int} {v : Value} {ev rs : Array Value}
theorem H3.start (w : World) (c : Cf) (clk : Int) (v : Value) (ev : Array Value) : H3 w (((w.alloc (.cells (rbA c clk v) 66)).alloc (.cells ev 54)).alloc (.cells rb0 66)) c clk v ev rb0 :=
  ⟨below_alloc (below_alloc (below_alloc (Below.refl _ _) _) _) _, blk_alloc (blk_alloc (blk_new _ _) _) _, blk_alloc (by simpa using blk_new (w.alloc (.cells (rbA c clk v) 66)) (.cells ev 54)) _, by simpa using blk_new ((w.alloc (.cells (rbA c clk v) 66)).alloc (.cells ev 54)) (.cells rb0 66)⟩
theorem H3.step (h : H3 w W c clk v ev rs) (hb : Below W.heap.size W W1) : H3 w W1 c clk v ev rs := ⟨below_step h.below hb, blk_below h.b hb, blk_below h.e hb, blk_below h.r hb⟩
theorem H3.alloc (h : H3 w W c clk v ev rs) (o : Obj) : H3 w (W.alloc o) c clk v ev rs := h.step (below_alloc (Below.refl _ _) o)
theorem H3.drew (h : H3 w W c clk v ev rs) : H3 w W.drew c clk v ev rs := h.step (Below.drew (Below.refl _ _))
theorem setRow_other (w : World) (g k : Nat) (cs : Array Value) (h : k ≠ g) : (w.setRow g cs).heap[k]? = w.heap[k]? := Go.setRow_other w g k cs h
/-- The result stored. -/
theorem H3.put (h : H3 w W c clk v ev rs) (rs' : Array Value) : H3 w (W.setRow (w.heap.size + 1 + 1) rs') c clk v ev rs' :=
  ⟨⟨h.below.os, h.below.tape, h.below.output, by have := h.below.size; simpa [World.setRow] using this, fun g hg => (Go.setRow_other W (w.heap.size + 1 + 1) g rs' (by omega)).trans (h.below.block g hg)⟩, (Go.setRow_other W _ _ rs' (by omega)).trans h.b, (Go.setRow_other W _ _ rs' (by omega)).trans h.e, setRow_heap W _ _ rs' _ _ h.r⟩
end
theorem able_c {c : Cf} {F : SM} {L : List S71} (h : Tie c F L) (A : Option Addr) (cap : Nat) (hc : L.length ≤ cap) (clk k wk op cn t dr er draw : Int) {can : Int} (hcan : abI (afterF c F op cn t draw) = can) {w : World} (hr : Kd.C k71 w A L.length L) :
    Aside0 (∀ W, Below w.heap.size w W → Calls Try.prog 85 #[.agg (rbA c clk (.slice A L.length cap)), .agg (evA k wk op cn t dr er)] W fun e w' => e = .returned (.int .i64 can) ∧ Below W.heap.size W w') := ⟨fun W hb => hcan ▸ able_any h A cap hc clk k wk op cn t dr er draw W (Kd.C_below hr hb)⟩
theorem bk_desc : (Try.prog.info? 66).map (·.size) = some 15 := by kernel_rfl

theorem point_arg {c : Cf} {F : SM} {L : List S71} (h : Tie c F L) (hl : L.length ≤ 1000000) (A : Option Addr) (cap : Nat) (hc : L.length ≤ cap) (clk k wk op cn t dr er draw a b d : Int) (hF : F.at_ cn = (a, b, d)) (can : Int) (hcan : abI (afterF c F op cn t draw) = can) (h1 : er = 1) (w : World) (hr : Kd.C k71 w A L.length L) :
    Calls Try.prog 68 #[.agg (rbA c clk (.slice A L.length cap)), .agg (evA k wk op cn t dr er), .int .i64 draw] w (PtPost c clk A cap L (L) (0) w) := by
  have hu1 := Try.underlying66
  have hu2 := Try.underlying71
  have hu3 := Try.underlying54
  have hu4 := Try.underlying33
  have CAb := able_c h A cap hc clk k wk op cn t dr er draw hcan hr
  have e1 : (er == 1) = true := beq_iff_eq.2 (by omega)
  have e3 : (er == 3) = false := beq_eq_false_iff_ne.2 (by omega)
  have e6 : (er == 6) = false := beq_eq_false_iff_ne.2 (by omega)
  have HR := Aside0.mk hr
  have HC := Aside0.mk hc
  have HS := Aside0.mk (H3.start w c clk (.slice A L.length cap) (evA k wk op cn t dr er))
  clear h hr hcan hF hc hl h1
  go_enter Try.func68, Try.ntmps68
  go_wp2_with (first | (go_at_call 85; (with_reducible refine (CAb.out _ HS.out.below).mono ?_); rintro e w1 ⟨rfl, hb⟩; have H1 := Aside0.mk (HS.out.step hb); have hl1 := blk_lt H1.out.b; have hl2 := blk_lt H1.out.e; have hl3 := blk_lt H1.out.r; have hcb := fun i => blk_cell H1.out.b i; have hce := fun i => blk_cell H1.out.e i; clear hb) | ((with_reducible refine gate_store (t := 66) (p := 6) rfl ?_); refine wpList_store_row rfl 66 _ _ rfl (w.heap.size + 1 + 1) (rbA c clk (.slice A L.length cap)) rfl rfl 66 _ H1.out.r (by kernel_rfl) (by kernel_rfl) (by kernel_rfl) ?_; have HP := Aside0.mk (H1.out.put (rbA c clk (.slice A L.length cap)))))
  have hr9 := HP.out.r
  refine bodyPost_ret (v := .tuple #[.agg (rbA c clk (.slice A L.length cap)), .int .i64 (0)]) ?_ rfl ⟨A, cap, ?_, HC.out, ?_, HP.out.below⟩
  · have hrow := run_loadVar_row (P := Try.prog) _ (w.heap.size + 1 + 1) 66 66 _ (0, 0) _ hr9 hu1 rfl bk_desc
    simp [results, Try.results68, asAddr, hrow]
  · rfl
  · exact .inl ⟨rfl, rfl, rfl⟩

theorem point_full {c : Cf} {F : SM} {L : List S71} (h : Tie c F L) (hl : L.length ≤ 1000000) (A : Option Addr) (cap : Nat) (hc : L.length ≤ cap) (clk k wk op cn t dr er draw a b d : Int) (hF : F.at_ cn = (a, b, d)) (can : Int) (hcan : abI (afterF c F op cn t draw) = can) (h1 : er = 3) (w : World) (hr : Kd.C k71 w A L.length L) :
    Calls Try.prog 68 #[.agg (rbA c clk (.slice A L.length cap)), .agg (evA k wk op cn t dr er), .int .i64 draw] w (PtPost c clk A cap L (L) (0) w) := by
  have hu1 := Try.underlying66
  have hu2 := Try.underlying71
  have hu3 := Try.underlying54
  have hu4 := Try.underlying33
  have CAb := able_c h A cap hc clk k wk op cn t dr er draw hcan hr
  have e1 : (er == 1) = false := beq_eq_false_iff_ne.2 (by omega)
  have e3 : (er == 3) = true := beq_iff_eq.2 (by omega)
  have e6 : (er == 6) = false := beq_eq_false_iff_ne.2 (by omega)
  have HR := Aside0.mk hr
  have HC := Aside0.mk hc
  have HS := Aside0.mk (H3.start w c clk (.slice A L.length cap) (evA k wk op cn t dr er))
  clear h hr hcan hF hc hl h1
  go_enter Try.func68, Try.ntmps68
  go_wp2_with (first | (go_at_call 85; (with_reducible refine (CAb.out _ HS.out.below).mono ?_); rintro e w1 ⟨rfl, hb⟩; have H1 := Aside0.mk (HS.out.step hb); have hl1 := blk_lt H1.out.b; have hl2 := blk_lt H1.out.e; have hl3 := blk_lt H1.out.r; have hcb := fun i => blk_cell H1.out.b i; have hce := fun i => blk_cell H1.out.e i; clear hb) | ((with_reducible refine gate_store (t := 66) (p := 6) rfl ?_); refine wpList_store_row rfl 66 _ _ rfl (w.heap.size + 1 + 1) (rbA c clk (.slice A L.length cap)) rfl rfl 66 _ H1.out.r (by kernel_rfl) (by kernel_rfl) (by kernel_rfl) ?_; have HP := Aside0.mk (H1.out.put (rbA c clk (.slice A L.length cap)))))
  have hr9 := HP.out.r
  refine bodyPost_ret (v := .tuple #[.agg (rbA c clk (.slice A L.length cap)), .int .i64 (0)]) ?_ rfl ⟨A, cap, ?_, HC.out, ?_, HP.out.below⟩
  · have hrow := run_loadVar_row (P := Try.prog) _ (w.heap.size + 1 + 1) 66 66 _ (0, 0) _ hr9 hu1 rfl bk_desc
    simp [results, Try.results68, asAddr, hrow]
  · rfl
  · exact .inl ⟨rfl, rfl, rfl⟩

theorem point_state {c : Cf} {F : SM} {L : List S71} (h : Tie c F L) (hl : L.length ≤ 1000000) (A : Option Addr) (cap : Nat) (hc : L.length ≤ cap) (clk k wk op cn t dr er draw a b d : Int) (hF : F.at_ cn = (a, b, d)) (can : Int) (hcan : abI (afterF c F op cn t draw) = can) (h1 : er = 6) (h2 : can < 0) (w : World) (hr : Kd.C k71 w A L.length L) :
    Calls Try.prog 68 #[.agg (rbA c clk (.slice A L.length cap)), .agg (evA k wk op cn t dr er), .int .i64 draw] w (PtPost c clk A cap L (L) (0) w) := by
  have hu1 := Try.underlying66
  have hu2 := Try.underlying71
  have hu3 := Try.underlying54
  have hu4 := Try.underlying33
  have CAb := able_c h A cap hc clk k wk op cn t dr er draw hcan hr
  have e1 : (er == 1) = false := beq_eq_false_iff_ne.2 (by omega)
  have e3 : (er == 3) = false := beq_eq_false_iff_ne.2 (by omega)
  have e6 : (er == 6) = true := beq_iff_eq.2 (by omega)
  have g1 : decide (can < 0) = true := decide_eq_true (by omega)
  have HR := Aside0.mk hr
  have HC := Aside0.mk hc
  have HS := Aside0.mk (H3.start w c clk (.slice A L.length cap) (evA k wk op cn t dr er))
  clear h hr hcan hF hc hl h1 h2
  go_enter Try.func68, Try.ntmps68
  go_wp2_with (first | (go_at_call 85; (with_reducible refine (CAb.out _ HS.out.below).mono ?_); rintro e w1 ⟨rfl, hb⟩; have H1 := Aside0.mk (HS.out.step hb); have hl1 := blk_lt H1.out.b; have hl2 := blk_lt H1.out.e; have hl3 := blk_lt H1.out.r; have hcb := fun i => blk_cell H1.out.b i; have hce := fun i => blk_cell H1.out.e i; clear hb) | ((with_reducible refine gate_store (t := 66) (p := 6) rfl ?_); refine wpList_store_row rfl 66 _ _ rfl (w.heap.size + 1 + 1) (rbA c clk (.slice A L.length cap)) rfl rfl 66 _ H1.out.r (by kernel_rfl) (by kernel_rfl) (by kernel_rfl) ?_; have HP := Aside0.mk (H1.out.put (rbA c clk (.slice A L.length cap)))))
  have hr9 := HP.out.r
  refine bodyPost_ret (v := .tuple #[.agg (rbA c clk (.slice A L.length cap)), .int .i64 (0)]) ?_ rfl ⟨A, cap, ?_, HC.out, ?_, HP.out.below⟩
  · have hrow := run_loadVar_row (P := Try.prog) _ (w.heap.size + 1 + 1) 66 66 _ (0, 0) _ hr9 hu1 rfl bk_desc
    simp [results, Try.results68, asAddr, hrow]
  · rfl
  · exact .inl ⟨rfl, rfl, rfl⟩

theorem point_cant {c : Cf} {F : SM} {L : List S71} (h : Tie c F L) (hl : L.length ≤ 1000000) (A : Option Addr) (cap : Nat) (hc : L.length ≤ cap) (clk k wk op cn t dr er draw a b d : Int) (hF : F.at_ cn = (a, b, d)) (can : Int) (hcan : abI (afterF c F op cn t draw) = can) (h1 : er ≠ 1 ∧ er ≠ 3 ∧ er ≠ 6) (h2 : can < 0) (w : World) (hr : Kd.C k71 w A L.length L) :
    Calls Try.prog 68 #[.agg (rbA c clk (.slice A L.length cap)), .agg (evA k wk op cn t dr er), .int .i64 draw] w (PtPost c clk A cap L (L) (6) w) := by
  have hu1 := Try.underlying66
  have hu2 := Try.underlying71
  have hu3 := Try.underlying54
  have hu4 := Try.underlying33
  have CAb := able_c h A cap hc clk k wk op cn t dr er draw hcan hr
  have e1 : (er == 1) = false := beq_eq_false_iff_ne.2 (by omega)
  have e3 : (er == 3) = false := beq_eq_false_iff_ne.2 (by omega)
  have e6 : (er == 6) = false := beq_eq_false_iff_ne.2 (by omega)
  have g1 : decide (can < 0) = true := decide_eq_true (by omega)
  have HR := Aside0.mk hr
  have HC := Aside0.mk hc
  have HS := Aside0.mk (H3.start w c clk (.slice A L.length cap) (evA k wk op cn t dr er))
  clear h hr hcan hF hc hl h1 h2
  go_enter Try.func68, Try.ntmps68
  go_wp2_with (first | (go_at_call 85; (with_reducible refine (CAb.out _ HS.out.below).mono ?_); rintro e w1 ⟨rfl, hb⟩; have H1 := Aside0.mk (HS.out.step hb); have hl1 := blk_lt H1.out.b; have hl2 := blk_lt H1.out.e; have hl3 := blk_lt H1.out.r; have hcb := fun i => blk_cell H1.out.b i; have hce := fun i => blk_cell H1.out.e i; clear hb) | ((with_reducible refine gate_store (t := 66) (p := 6) rfl ?_); refine wpList_store_row rfl 66 _ _ rfl (w.heap.size + 1 + 1) (rbA c clk (.slice A L.length cap)) rfl rfl 66 _ H1.out.r (by kernel_rfl) (by kernel_rfl) (by kernel_rfl) ?_; have HP := Aside0.mk (H1.out.put (rbA c clk (.slice A L.length cap)))))
  have hr9 := HP.out.r
  refine bodyPost_ret (v := .tuple #[.agg (rbA c clk (.slice A L.length cap)), .int .i64 (6)]) ?_ rfl ⟨A, cap, ?_, HC.out, ?_, HP.out.below⟩
  · have hrow := run_loadVar_row (P := Try.prog) _ (w.heap.size + 1 + 1) 66 66 _ (0, 0) _ hr9 hu1 rfl bk_desc
    simp [results, Try.results68, asAddr, hrow]
  · rfl
  · exact .inl ⟨rfl, rfl, rfl⟩

theorem point_state_can {c : Cf} {F : SM} {L : List S71} (h : Tie c F L) (hl : L.length ≤ 1000000) (A : Option Addr) (cap : Nat) (hc : L.length ≤ cap) (clk k wk op cn t dr er draw a b d : Int) (hF : F.at_ cn = (a, b, d)) (can : Int) (hcan : abI (afterF c F op cn t draw) = can) (h1 : er = 6) (h2 : 0 ≤ can) (h3 : can ≠ er) (w : World) (hr : Kd.C k71 w A L.length L) :
    Calls Try.prog 68 #[.agg (rbA c clk (.slice A L.length cap)), .agg (evA k wk op cn t dr er), .int .i64 draw] w (PtPost c clk A cap L (L) (6) w) := by
  have hu1 := Try.underlying66
  have hu2 := Try.underlying71
  have hu3 := Try.underlying54
  have hu4 := Try.underlying33
  have CAb := able_c h A cap hc clk k wk op cn t dr er draw hcan hr
  have e1 : (er == 1) = false := beq_eq_false_iff_ne.2 (by omega)
  have e3 : (er == 3) = false := beq_eq_false_iff_ne.2 (by omega)
  have e6 : (er == 6) = true := beq_iff_eq.2 (by omega)
  have g1 : decide (can < 0) = false := decide_eq_false (by omega)
  have g2 : (can != er) = true := bne_iff_ne.2 (by omega)
  have HR := Aside0.mk hr
  have HC := Aside0.mk hc
  have HS := Aside0.mk (H3.start w c clk (.slice A L.length cap) (evA k wk op cn t dr er))
  clear h hr hcan hF hc hl h1 h2 h3
  go_enter Try.func68, Try.ntmps68
  go_wp2_with (first | (go_at_call 85; (with_reducible refine (CAb.out _ HS.out.below).mono ?_); rintro e w1 ⟨rfl, hb⟩; have H1 := Aside0.mk (HS.out.step hb); have hl1 := blk_lt H1.out.b; have hl2 := blk_lt H1.out.e; have hl3 := blk_lt H1.out.r; have hcb := fun i => blk_cell H1.out.b i; have hce := fun i => blk_cell H1.out.e i; clear hb) | ((with_reducible refine gate_store (t := 66) (p := 6) rfl ?_); refine wpList_store_row rfl 66 _ _ rfl (w.heap.size + 1 + 1) (rbA c clk (.slice A L.length cap)) rfl rfl 66 _ H1.out.r (by kernel_rfl) (by kernel_rfl) (by kernel_rfl) ?_; have HP := Aside0.mk (H1.out.put (rbA c clk (.slice A L.length cap)))))
  have hr9 := HP.out.r
  refine bodyPost_ret (v := .tuple #[.agg (rbA c clk (.slice A L.length cap)), .int .i64 (6)]) ?_ rfl ⟨A, cap, ?_, HC.out, ?_, HP.out.below⟩
  · have hrow := run_loadVar_row (P := Try.prog) _ (w.heap.size + 1 + 1) 66 66 _ (0, 0) _ hr9 hu1 rfl bk_desc
    simp [results, Try.results68, asAddr, hrow]
  · rfl
  · exact .inl ⟨rfl, rfl, rfl⟩

theorem point_other {c : Cf} {F : SM} {L : List S71} (h : Tie c F L) (hl : L.length ≤ 1000000) (A : Option Addr) (cap : Nat) (hc : L.length ≤ cap) (clk k wk op cn t dr er draw a b d : Int) (hF : F.at_ cn = (a, b, d)) (can : Int) (hcan : abI (afterF c F op cn t draw) = can) (h1 : er ≠ 1 ∧ er ≠ 3 ∧ er ≠ 6) (h2 : 0 ≤ can) (h3 : can ≠ er) (w : World) (hr : Kd.C k71 w A L.length L) :
    Calls Try.prog 68 #[.agg (rbA c clk (.slice A L.length cap)), .agg (evA k wk op cn t dr er), .int .i64 draw] w (PtPost c clk A cap L (L) (6) w) := by
  have hu1 := Try.underlying66
  have hu2 := Try.underlying71
  have hu3 := Try.underlying54
  have hu4 := Try.underlying33
  have CAb := able_c h A cap hc clk k wk op cn t dr er draw hcan hr
  have e1 : (er == 1) = false := beq_eq_false_iff_ne.2 (by omega)
  have e3 : (er == 3) = false := beq_eq_false_iff_ne.2 (by omega)
  have e6 : (er == 6) = false := beq_eq_false_iff_ne.2 (by omega)
  have g1 : decide (can < 0) = false := decide_eq_false (by omega)
  have g2 : (can != er) = true := bne_iff_ne.2 (by omega)
  have HR := Aside0.mk hr
  have HC := Aside0.mk hc
  have HS := Aside0.mk (H3.start w c clk (.slice A L.length cap) (evA k wk op cn t dr er))
  clear h hr hcan hF hc hl h1 h2 h3
  go_enter Try.func68, Try.ntmps68
  go_wp2_with (first | (go_at_call 85; (with_reducible refine (CAb.out _ HS.out.below).mono ?_); rintro e w1 ⟨rfl, hb⟩; have H1 := Aside0.mk (HS.out.step hb); have hl1 := blk_lt H1.out.b; have hl2 := blk_lt H1.out.e; have hl3 := blk_lt H1.out.r; have hcb := fun i => blk_cell H1.out.b i; have hce := fun i => blk_cell H1.out.e i; clear hb) | ((with_reducible refine gate_store (t := 66) (p := 6) rfl ?_); refine wpList_store_row rfl 66 _ _ rfl (w.heap.size + 1 + 1) (rbA c clk (.slice A L.length cap)) rfl rfl 66 _ H1.out.r (by kernel_rfl) (by kernel_rfl) (by kernel_rfl) ?_; have HP := Aside0.mk (H1.out.put (rbA c clk (.slice A L.length cap)))))
  have hr9 := HP.out.r
  refine bodyPost_ret (v := .tuple #[.agg (rbA c clk (.slice A L.length cap)), .int .i64 (6)]) ?_ rfl ⟨A, cap, ?_, HC.out, ?_, HP.out.below⟩
  · have hrow := run_loadVar_row (P := Try.prog) _ (w.heap.size + 1 + 1) 66 66 _ (0, 0) _ hr9 hu1 rfl bk_desc
    simp [results, Try.results68, asAddr, hrow]
  · rfl
  · exact .inl ⟨rfl, rfl, rfl⟩
end Go.Proofs.Ythljanmfanppdaa.Bk
