/- What is proved: what knellref24.point does with the document's book, where a connection fails and waits; and at all events. -/
import Derived.Test.YthljanmfanppdaaPp
namespace Go.Proofs.Ythljanmfanppdaa.Bk
open Go.RowKit Go.Maps Go.Proofs.YthljanmfanppdaaW.PrintWords Go.Proofs.YthljanmfanppdaaW.PrintLast Go.Proofs.YthljanmfanppdaaW.PrintMore Go.Proofs.Ythljanmfanppdaa.KRf
set_option linter.unusedVariables false
set_option maxHeartbeats 8000000
set_option maxRecDepth 100000
open List (setIfInBounds_toArray set_cons_zero set_cons_succ)
set_option linter.unusedSimpArgs false

def pointR.T17 : Bool × List (List Nat × List Nat) := (true, [([], []), ([], []), ([1], [1]), ([], []), ([3], [3]), ([4], [4]), ([], []), ([6], [6]), ([], []), ([8], [8]), ([], []), ([10], [10]), ([], []), ([7, 9, 11, 12], [7, 9, 11, 12]), ([5, 13], [5, 13]), ([0, 2, 14, 13], [0, 2, 14]), ([15, 15, 0, 1, 2, 3, 4, 5, 6, 7, 8, 9, 10, 11, 12, 13, 14, 15], [15]), ([16, 0, 1, 2, 3, 4, 5, 6, 7, 8, 9, 10, 11, 12, 13, 14, 15, 16], [])])
def pointR.B17 : List Nat := [0, 0, 2, 0, 8, 24, 0, 64, 0, 256, 0, 1024, 0, 8128, 16376, 32767, 65535, 131071]
theorem pointR.tab17 : rtab .any (opsOf Try.f68 17) = pointR.T17 := by kernel_rfl
theorem pointR.bits17 : waitsOk pointR.T17.2 pointR.B17 = true := by kernel_rfl
theorem cells3 {w W : World} {c : Cf} {clk : Int} {v : Value} {ev rs : Array Value} (h : H3 w W c clk v ev rs) {g : Nat} {cs : Array Value} {ty : TypeId} (ht : W.heap[g]? = some (.cells cs ty (0, 0))) : (∀ i, W.cell? ⟨w.heap.size, i, none⟩ = (rbA c clk v)[i]?) ∧ (∀ i, W.cell? ⟨w.heap.size + 1, i, none⟩ = ev[i]?) ∧ (∀ i, W.cell? ⟨g, i, none⟩ = cs[i]?) :=
  ⟨fun i => blk_cell h.b i, fun i => blk_cell h.e i, fun i => blk_cell ht i⟩
theorem store_run {P : Program} {o : Oper} {a : Act} {w : World} (ty : TypeId) (x y : Operand) (cells : Array Value) {g : Nat} {t : TypeId} {old : Array Value} (ho : o.op = .store ty x y) (hxy : (a.eval x, a.eval y) = (.pointer (some ⟨g, 0, none⟩), .agg cells)) (hg : w.heap[g]? = some (.cells old t (0, 0))) (hi : (P.info? ty).map (·.size) = some cells.size)
    (hold : old.size = cells.size) (h1 : cells.all (·.oneCell') = true) : (execOp a.eval o).run P w = .ok .skip (w.setRow g cells) := by
  have hx : a.eval x = .pointer (some ⟨g, 0, none⟩) := congrArg Prod.fst hxy
  have hy : a.eval y = .agg cells := congrArg Prod.snd hxy
  unfold execOp
  simp only [ho, hx, hy, Instr.storeAt, Instr.sureAddr, Sem.run_bind, Sem.run_pure, Result.andThen_ok, run_storeVar_row w g t ty old cells hg hi hold h1]
theorem point_fail_wait {c : Cf} {F : SM} {L : List S71} (h : Tie c F L) (hl : L.length ≤ 1000000) (A : Option Addr) (cap : Nat) (hc : L.length ≤ cap) (clk k wk op cn t dr er draw a b d : Int) (hF : F.at_ cn = (a, b, d)) (can : Int) (hcan : abI (afterF c F op cn t draw) = can) (h1 : er = can) (h2 : can = 0) (ho : op = 4) (hin : 0 ≤ cn ∧ cn < (L.length : Int)) (w : World) (hr : Kd.C k71 w A L.length L) :
    Calls Try.prog 68 #[.agg (rbA c clk (.slice A L.length cap)), .agg (evA k wk op cn t dr er), .int .i64 draw] w (PtPost c clk A cap L (L.set cn.toNat ⟨2, wrap64 (b + 1), dueI c t b draw⟩) (0) w) := by
  have hu1 := Try.underlying66
  have hu2 := Try.underlying71
  have hu3 := Try.underlying54
  have hu4 := Try.underlying33
  have CAb := able_c h A cap hc clk k wk op cn t dr er draw hcan hr
  have e1 : (er == 1) = false := beq_eq_false_iff_ne.2 (by omega)
  have e3 : (er == 3) = false := beq_eq_false_iff_ne.2 (by omega)
  have e6 : (er == 6) = false := beq_eq_false_iff_ne.2 (by omega)
  have g1 : decide (can < 0) = false := decide_eq_false (by omega)
  have g2 : (can != er) = false := by simp [h1]
  have g3 : (can == 0) = true := beq_iff_eq.2 h2
  have o1 : (op == 1) = false := beq_eq_false_iff_ne.2 (by omega)
  have o2 : (op == 2) = false := beq_eq_false_iff_ne.2 (by omega)
  have o4 : (op == 4) = true := beq_iff_eq.2 (by omega)
  have o5 : (op == 5) = false := beq_eq_false_iff_ne.2 (by omega)
  have CAt := Aside0.mk (fun W hb => at_calls h A cap hc clk cn a b d hF w hr W hb)
  have CSt := Aside0.mk (fun W hb => rset_calls hl c clk A cap hc cn 2 (wrap64 (b + 1)) (dueI c t b draw) hin.1 hin.2 w hr W hb)
  have CDu := Aside0.mk (fun W => rdue_calls c t b draw W)
  have HR := Aside0.mk hr
  have HC := Aside0.mk hc
  have HS := Aside0.mk (H3.start w c clk (.slice A L.length cap) (evA k wk op cn t dr er))
  clear h hr hcan hF hc hl h1 h2 ho hin
  go_enter Try.func68, Try.ntmps68
  go_wp2_with (first | (go_at_call 85; (with_reducible refine (CAb.out _ HS.out.below).mono ?_); rintro e w1 ⟨rfl, hb⟩; have H1 := Aside0.mk (HS.out.step hb); have hl1 := blk_lt H1.out.b; have hl2 := blk_lt H1.out.e; have hl3 := blk_lt H1.out.r; have hcb := fun i => blk_cell H1.out.b i; have hce := fun i => blk_cell H1.out.e i; clear hb) | (go_at_call 43; (with_reducible refine (CAt.out _ H1.out.below).mono ?_); rintro e w2 ⟨rfl, hb⟩; have H2 := Aside0.mk (H1.out.step hb); clear hl1 hl2 hl3 hcb hce; have hl1 := blk_lt H2.out.b; have hl2 := blk_lt H2.out.e; have hl3 := blk_lt H2.out.r; have hcb := fun i => blk_cell H2.out.b i; have hce := fun i => blk_cell H2.out.e i; clear hb))
  have HS5 := Aside0.mk (H2.out.alloc (.cells #[.int .i64 a, .int .i64 b, .int .i64 d] 71)).drew
  have HT5 : Aside0 ((w2.alloc (.cells #[.int .i64 a, .int .i64 b, .int .i64 d] 71)).drew.heap[w2.heap.size]? = some (.cells #[.int .i64 a, .int .i64 b, .int .i64 d] 71 (0, 0))) := ⟨(blk_new w2 _ : _)⟩
  refine start_ (n := 18) (S := (fun w' => (∀ i, w'.cell? ⟨w.heap.size, i, none⟩ = ((rbA c clk (.slice A L.length cap)))[i]?) ∧ (∀ i, w'.cell? ⟨w.heap.size + 1, i, none⟩ = (evA k wk op cn t dr er)[i]?) ∧ (∀ i, w'.cell? ⟨w2.heap.size, i, none⟩ = (#[.int .i64 a, .int .i64 b, .int .i64 d] : Array Value)[i]?))) (ds := [16]) #[false, false, false, false, false, false, false, false, false, false, false, false, false, false, false, false, false, false] (by kernel_rfl) rfl rfl (cells3 HS5.out HT5.out) (fun hHeld => ?_)
  refine with_tabW pointR.tab17 pointR.bits17 (fun HT_ HW_ => ?_)
  have H5 := Aside0.mk (H2.out.alloc (.cells #[.int .i64 a, .int .i64 b, .int .i64 d] 71)).drew
  have HT7 : Aside0 ((w2.alloc (.cells #[.int .i64 a, .int .i64 b, .int .i64 d] 71)).drew.heap[w2.heap.size]? = some (.cells #[.int .i64 a, .int .i64 b, .int .i64 d] 71 (0, 0))) := ⟨(blk_new w2 _ : _)⟩
  generalize (w2.alloc (.cells #[.int .i64 a, .int .i64 b, .int .i64 d] 71)).drew = w5 at H5 HT7 hHeld ⊢
  refine pure_ (i := 1) (N := (some 76)) (v := ?_) (a' := ?_) #[false, true, false, false, false, false, false, false, false, false, false, false, false, false, false, false, false, false] rfl rfl (any_of HT_.out (by kernel_rfl)) (fun _ _ _ h => h) (Or.inl ⟨by rfl, ?_⟩) ?_ ?_
  rotate_left
  · intro w'
    go_simp
    with_reducible rfl
  rotate_left
  · simp only [Act.put, setIfInBounds_toArray, set_cons_zero, set_cons_succ, i64_w, i32_w]
    rfl
  refine pure_ (i := 3) (N := (some 78)) (v := ?_) (a' := ?_) #[false, true, false, true, false, false, false, false, false, false, false, false, false, false, false, false, false, false] rfl rfl (any_of HT_.out (by kernel_rfl)) (fun _ _ _ h => h) (Or.inl ⟨by rfl, ?_⟩) ?_ ?_
  rotate_left
  · intro w'
    go_simp
    with_reducible rfl
  rotate_left
  · simp only [Act.put, setIfInBounds_toArray, set_cons_zero, set_cons_succ, i64_w, i32_w]
    rfl
  refine pure_ (i := 6) (N := (some 81)) (v := ?_) (a' := ?_) #[false, true, false, true, false, false, true, false, false, false, false, false, false, false, false, false, false, false] rfl rfl (any_of HT_.out (by kernel_rfl)) (fun _ _ _ h => h) (Or.inl ⟨by rfl, ?_⟩) ?_ ?_
  rotate_left
  · intro w'
    go_simp
    with_reducible rfl
  rotate_left
  · simp only [Act.put, setIfInBounds_toArray, set_cons_zero, set_cons_succ, i64_w, i32_w]
    rfl
  refine pure_ (i := 8) (N := (some 83)) (v := ?_) (a' := ?_) #[false, true, false, true, false, false, true, false, true, false, false, false, false, false, false, false, false, false] rfl rfl (any_of HT_.out (by kernel_rfl)) (fun _ _ _ h => h) (Or.inl ⟨by rfl, ?_⟩) ?_ ?_
  rotate_left
  · intro w'
    go_simp
    with_reducible rfl
  rotate_left
  · simp only [Act.put, setIfInBounds_toArray, set_cons_zero, set_cons_succ, i64_w, i32_w]
    rfl
  refine pure_ (i := 10) (N := (some 85)) (v := ?_) (a' := ?_) #[false, true, false, true, false, false, true, false, true, false, true, false, false, false, false, false, false, false] rfl rfl (any_of HT_.out (by kernel_rfl)) (fun _ _ _ h => h) (Or.inl ⟨by rfl, ?_⟩) ?_ ?_
  rotate_left
  · intro w'
    go_simp
    with_reducible rfl
  rotate_left
  · simp only [Act.put, setIfInBounds_toArray, set_cons_zero, set_cons_succ, i64_w, i32_w]
    rfl
  refine pure_ (i := 12) (N := (some 87)) (v := ?_) (a' := ?_) #[false, true, false, true, false, false, true, false, true, false, true, false, true, false, false, false, false, false] rfl rfl (any_of HT_.out (by kernel_rfl)) (fun _ _ _ h => h) (Or.inl ⟨by rfl, ?_⟩) ?_ ?_
  rotate_left
  · intro w'
    go_simp
    with_reducible rfl
  rotate_left
  · simp only [Act.put, setIfInBounds_toArray, set_cons_zero, set_cons_succ, i64_w, i32_w]
    rfl
  refine take_ (i := 0) (N := (some 75)) (v := ?_) (a' := ?_) #[true, true, false, true, false, false, true, false, true, false, true, false, true, false, false, false, false, false] rfl rfl (take_ofW HT_.out HW_.out (by kernel_rfl)) (fun _ _ _ h => h) (Or.inl ⟨by rfl, ?_⟩) hHeld ?_ ?_
  rotate_left
  · rintro w' ⟨s0, s1, s2⟩
    go_simp
    with_reducible rfl
  rotate_left
  · simp only [Act.put, setIfInBounds_toArray, set_cons_zero, set_cons_succ, i64_w, i32_w]
    rfl
  refine take_ (i := 2) (N := (some 77)) (v := ?_) (a' := ?_) #[true, true, true, true, false, false, true, false, true, false, true, false, true, false, false, false, false, false] rfl rfl (take_ofW HT_.out HW_.out (by kernel_rfl)) (fun _ _ _ h => h) (Or.inl ⟨by rfl, ?_⟩) hHeld ?_ ?_
  rotate_left
  · rintro w' ⟨s0, s1, s2⟩
    go_simp
    with_reducible rfl
  rotate_left
  · simp only [Act.put, setIfInBounds_toArray, set_cons_zero, set_cons_succ, i64_w, i32_w]
    rfl
  refine take_ (i := 4) (N := (some 79)) (v := ?_) (a' := ?_) #[true, true, true, true, true, false, true, false, true, false, true, false, true, false, false, false, false, false] rfl rfl (take_ofW HT_.out HW_.out (by kernel_rfl)) (fun _ _ _ h => h) (Or.inl ⟨by rfl, ?_⟩) hHeld ?_ ?_
  rotate_left
  · rintro w' ⟨s0, s1, s2⟩
    go_simp
    with_reducible rfl
  rotate_left
  · simp only [Act.put, setIfInBounds_toArray, set_cons_zero, set_cons_succ, i64_w, i32_w]
    rfl
  refine pure_ (i := 5) (N := (some 80)) (v := ?_) (a' := ?_) #[true, true, true, true, true, true, true, false, true, false, true, false, true, false, false, false, false, false] rfl rfl (any_of HT_.out (by kernel_rfl)) (fun _ _ _ h => h) (Or.inl ⟨by rfl, ?_⟩) ?_ ?_
  rotate_left
  · intro w'
    go_simp
    with_reducible rfl
  rotate_left
  · simp only [Act.put, setIfInBounds_toArray, set_cons_zero, set_cons_succ, i64_w, i32_w]
    rfl
  refine take_ (i := 7) (N := (some 82)) (v := ?_) (a' := ?_) #[true, true, true, true, true, true, true, true, true, false, true, false, true, false, false, false, false, false] rfl rfl (take_ofW HT_.out HW_.out (by kernel_rfl)) (fun _ _ _ h => h) (Or.inl ⟨by rfl, ?_⟩) hHeld ?_ ?_
  rotate_left
  · rintro w' ⟨s0, s1, s2⟩
    go_simp
    with_reducible rfl
  rotate_left
  · simp only [Act.put, setIfInBounds_toArray, set_cons_zero, set_cons_succ, i64_w, i32_w]
    rfl
  refine take_ (i := 9) (N := (some 84)) (v := ?_) (a' := ?_) #[true, true, true, true, true, true, true, true, true, true, true, false, true, false, false, false, false, false] rfl rfl (take_ofW HT_.out HW_.out (by kernel_rfl)) (fun _ _ _ h => h) (Or.inl ⟨by rfl, ?_⟩) hHeld ?_ ?_
  rotate_left
  · rintro w' ⟨s0, s1, s2⟩
    go_simp
    with_reducible rfl
  rotate_left
  · simp only [Act.put, setIfInBounds_toArray, set_cons_zero, set_cons_succ, i64_w, i32_w]
    rfl
  refine take_ (i := 11) (N := (some 86)) (v := ?_) (a' := ?_) #[true, true, true, true, true, true, true, true, true, true, true, true, true, false, false, false, false, false] rfl rfl (take_ofW HT_.out HW_.out (by kernel_rfl)) (fun _ _ _ h => h) (Or.inl ⟨by rfl, ?_⟩) hHeld ?_ ?_
  rotate_left
  · rintro w' ⟨s0, s1, s2⟩
    go_simp
    with_reducible rfl
  rotate_left
  · simp only [Act.put, setIfInBounds_toArray, set_cons_zero, set_cons_succ, i64_w, i32_w]
    rfl
  refine one_ (i := 13) (N := (some 88)) #[true, true, true, true, true, true, true, true, true, true, true, true, true, true, false, false, false, false] rfl rfl (one_of HT_.out (by kernel_rfl)) (by decide) (fun K hK => ?_)
  refine call_ (f := 30) #[.agg c.cells, .int .i64 t, .int .i64 b, .int .i64 draw] (by rfl) rfl (by go_simp <;> rfl) ?_
  refine (CDu.out w5).mono ?_
  rintro e w6 ⟨rfl, hb⟩
  refine ⟨_, rfl, ?_⟩
  have H6 := Aside0.mk (H5.out.step hb)
  have HT6 := Aside0.mk (blk_below HT7.out hb)
  clear hb
  refine hK.out _ _ (cells3 H6.out HT6.out) (fun hHeld => ?_)
  clear hK K
  refine norm_ (a' := ?_) ?_ ?_
  rotate_left
  · show Act.put _ (some 88) _ = _
    simp only [Act.put, setIfInBounds_toArray, set_cons_zero, set_cons_succ, i64_w, i32_w]
    rfl
  refine pure_ (i := 14) (N := (some 89)) (v := ?_) (a' := ?_) #[true, true, true, true, true, true, true, true, true, true, true, true, true, true, true, false, false, false] rfl rfl (any_of HT_.out (by kernel_rfl)) (fun _ _ _ h => h) (Or.inl ⟨by rfl, ?_⟩) ?_ ?_
  rotate_left
  · intro w'
    go_simp
    with_reducible rfl
  rotate_left
  · simp only [Act.put, setIfInBounds_toArray, set_cons_zero, set_cons_succ, i64_w, i32_w]
    rfl
  refine one_ (i := 15) (N := (some 90)) #[true, true, true, true, true, true, true, true, true, true, true, true, true, true, true, true, false, false] rfl rfl (one_of HT_.out (by kernel_rfl)) (by decide) (fun K hK => ?_)
  refine call_ (f := 69) #[.agg (rbA c clk (.slice A L.length cap)), .int .i64 cn, .agg #[.int .i64 2, .int .i64 (wrap64 (b + 1)), .int .i64 (dueI c t b draw)]] (by rfl) rfl (by go_simp <;> rfl) ?_
  refine (CSt.out w6 H6.out.below).mono ?_
  rintro e w7 ⟨A9, cap9, rfl, hR9, hb⟩
  refine ⟨_, rfl, ?_⟩
  have H8 := Aside0.mk (H6.out.step hb)
  have HT8 := Aside0.mk (blk_below HT6.out hb)
  have HC9 := Aside0.mk (Kd.R_lower hR9 H6.out.below.size)
  clear hb hR9
  refine hK.out _ _ (cells3 H8.out HT8.out) (fun hHeld => ?_)
  clear hK K
  refine norm_ (a' := ?_) ?_ ?_
  rotate_left
  · show Act.put _ (some 90) _ = _
    simp only [Act.put, setIfInBounds_toArray, set_cons_zero, set_cons_succ, i64_w, i32_w]
    rfl
  refine last_ (i := 16) (N := none) #[true, true, true, true, true, true, true, true, true, true, true, true, true, true, true, true, true, false] rfl rfl (one_of HT_.out (by kernel_rfl)) (by decide) (fun K hK => ?_)
  refine skip_ (by rfl) rfl (w1 := w7.setRow (w.heap.size + 1 + 1) (rbA c clk (.slice A9 L.length cap9))) (store_run _ _ _ _ (by rfl) (by rfl) H8.out.r (by kernel_rfl) (by kernel_rfl) (by kernel_rfl)) ?_
  refine hK.out _ _ ?_
  clear hK K
  refine pure_ (i := 17) (N := (some 7)) (v := ?_) (a' := ?_) #[true, true, true, true, true, true, true, true, true, true, true, true, true, true, true, true, true, true] rfl rfl (any_of HT_.out (by kernel_rfl)) (fun _ _ _ h => h) (Or.inl ⟨by rfl, ?_⟩) ?_ ?_
  rotate_left
  · intro w'
    go_simp
    with_reducible rfl
  rotate_left
  · simp only [Act.put, setIfInBounds_toArray, set_cons_zero, set_cons_succ, i64_w, i32_w]
    rfl
  refine done_ (done_of HT_.out (by kernel_rfl)) ?_
  have HC9P := Aside0.mk (R_row (cs' := (rbA c clk (.slice A9 L.length cap9))) HC9.out H8.out.r)
  have HP := Aside0.mk (H8.out.put (rbA c clk (.slice A9 L.length cap9)))
  clear hHeld
  go_wp2
  have hr9 := HP.out.r
  refine bodyPost_ret (v := .tuple #[.agg (rbA c clk (.slice A9 L.length cap9)), .int .i64 0]) ?_ rfl ⟨A9, cap9, ?_, ?_, ?_, HP.out.below⟩
  · have hrow := run_loadVar_row (P := Try.prog) _ (w.heap.size + 1 + 1) 66 66 _ (0, 0) _ hr9 hu1 rfl bk_desc
    simp [results, Try.results68, asAddr, hrow]
  · rw [List.length_set]
  · rw [List.length_set]; exact (R_out HC9P.out).2.1
  · exact .inr (by rw [List.length_set]; exact Kd.R_mono HC9P.out (fun _ _ => trivial))

end Go.Proofs.Ythljanmfanppdaa.Bk
