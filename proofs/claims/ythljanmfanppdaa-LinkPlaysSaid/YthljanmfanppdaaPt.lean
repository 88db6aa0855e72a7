/- What is proved: what knellref24.point does with the document's book, at all events. -/
import Derived.Test.YthljanmfanppdaaPq
import Derived.Test.YthljanmfanppdaaKRfx4
set_option linter.unusedVariables false
set_option linter.unusedSimpArgs false
set_option maxHeartbeats 8000000
set_option maxRecDepth 100000
open List (setIfInBounds_toArray set_cons_zero set_cons_succ)
namespace Go.Proofs.Ythljanmfanppdaa.Bk
open Go.RowKit Go.Maps Go.Proofs.YthljanmfanppdaaW.PrintWords Go.Proofs.YthljanmfanppdaaW.PrintLast Go.Proofs.YthljanmfanppdaaW.PrintMore Go.Proofs.Ythljanmfanppdaa.KRf

/-- What point answers, and the states behind it. -/
def pointF (c : Cf) (F : SM) (op cn t er draw : Int) : Int × SM :=
  if er = 1 ∨ er = 3 ∨ er = 6 ∧ (afterF c F op cn t draw).2.2 = false then (0, F)
  else if (afterF c F op cn t draw).2.2 = true ∧ er = (afterF c F op cn t draw).2.1 then (0, F.put cn (afterF c F op cn t draw).1)
  else (6, F)
theorem after_split {c : Cf} {F : SM} {op cn t draw a b d : Int} (hF : F.at_ cn = (a, b, d)) (h : (afterF c F op cn t draw).2.2 = true) :
    (op = 1 ∧ a = 0 ∧ cn ≥ 0 ∧ cn < c.c7 ∧ afterF c F op cn t draw = ((1, 0, t), 0, true)) ∨ (op = 2 ∧ a = 1 ∧ afterF c F op cn t draw = ((1, b, if t ≤ d then d else t), 0, true)) ∨ (op = 3 ∧ a ≠ 0 ∧ afterF c F op cn t draw = ((0, 0, 0), 0, true)) ∨ (op = 5 ∧ a = 3 ∧ afterF c F op cn t draw = ((1, 0, t), 0, true)) ∨
    (op = 4 ∧ (a = 1 ∨ a = 3) ∧ ((b ≥ c.c12 ∧ afterF c F op cn t draw = ((0, 0, 0), 5, true)) ∨ (¬ b ≥ c.c12 ∧ afterF c F op cn t draw = ((2, wrap64 (b + 1), dueI c t b draw), 0, true)))) := by
  unfold afterF at h ⊢
  rw [hF] at h ⊢
  simp only at h ⊢
  by_cases o1 : op = 1 ∧ a = 0 ∧ cn ≥ 0 ∧ cn < c.c7
  · rw [if_pos o1]; exact .inl ⟨o1.1, o1.2.1, o1.2.2.1, o1.2.2.2, rfl⟩
  rw [if_neg o1] at h ⊢
  by_cases o2 : op = 2 ∧ a = 1
  · rw [if_pos o2]; exact .inr (.inl ⟨o2.1, o2.2, rfl⟩)
  rw [if_neg o2] at h ⊢
  by_cases o3 : op = 3 ∧ ¬ a = 0
  · rw [if_pos o3]; exact .inr (.inr (.inl ⟨o3.1, o3.2, rfl⟩))
  rw [if_neg o3] at h ⊢
  by_cases o5 : op = 5 ∧ a = 3
  · rw [if_pos o5]; exact .inr (.inr (.inr (.inl ⟨o5.1, o5.2, rfl⟩)))
  rw [if_neg o5] at h ⊢
  by_cases o4 : op = 4 ∧ (a = 1 ∨ a = 3)
  · rw [if_pos o4]
    by_cases hb : b ≥ c.c12
    · rw [if_pos hb]; exact .inr (.inr (.inr (.inr ⟨o4.1, o4.2, .inl ⟨hb, rfl⟩⟩)))
    · rw [if_neg hb]; exact .inr (.inr (.inr (.inr ⟨o4.1, o4.2, .inr ⟨hb, rfl⟩⟩)))
  rw [if_neg o4] at h
  cases h
theorem point_any {c : Cf} {F : SM} {L : List S71} (h : Tie c F L) (hl : L.length ≤ 1000000) (A : Option Addr) (cap : Nat) (hc : L.length ≤ cap) (clk k wk op cn t dr er draw : Int) :
    ∃ L', Tie c (pointF c F op cn t er draw).2 L' ∧ L'.length = L.length ∧ ∀ (w : World), Kd.C k71 w A L.length L → Calls Try.prog 68 #[.agg (rbA c clk (.slice A L.length cap)), .agg (evA k wk op cn t dr er), .int .i64 draw] w (PtPost c clk A cap L L' (pointF c F op cn t er draw).1 w) := by
  obtain ⟨a, b, d, hF⟩ : ∃ a b d, F.at_ cn = (a, b, d) := ⟨_, _, _, rfl⟩
  have hout : a ≠ 0 → 0 ≤ cn ∧ cn < (L.length : Int) := fun ha => by
    refine Classical.byContradiction fun hn => ?_
    have := h.at_ cn
    rw [hF, if_neg hn] at this
    exact ha (congrArg Prod.fst this)
  unfold pointF
  have key : (afterF c F op cn t draw).2.2 = false → abI (afterF c F op cn t draw) = -1 := fun hf => by unfold abI; rw [hf]; rfl
  have key2 : (afterF c F op cn t draw).2.2 = true → abI (afterF c F op cn t draw) = (afterF c F op cn t draw).2.1 := fun ht => by unfold abI; rw [if_pos ht]
  by_cases e1 : er = 1
  · rw [if_pos (.inl e1)]
    exact ⟨L, h, rfl, point_arg h hl A cap hc clk k wk op cn t dr er draw a b d hF _ rfl e1⟩
  by_cases e3 : er = 3
  · rw [if_pos (.inr (.inl e3))]
    exact ⟨L, h, rfl, point_full h hl A cap hc clk k wk op cn t dr er draw a b d hF _ rfl e3⟩
  cases hq : (afterF c F op cn t draw).2.2 with
  | false =>
    have hc1 := key hq
    by_cases e6 : er = 6
    · rw [if_pos (.inr (.inr ⟨e6, rfl⟩))]
      exact ⟨L, h, rfl, point_state h hl A cap hc clk k wk op cn t dr er draw a b d hF _ rfl e6 (by omega)⟩
    · rw [if_neg (fun q => q.elim e1 (fun q => q.elim e3 (fun q => e6 q.1))), if_neg (by simp)]
      exact ⟨L, h, rfl, point_cant h hl A cap hc clk k wk op cn t dr er draw a b d hF _ rfl ⟨e1, e3, e6⟩ (by omega)⟩
  | true =>
    have hc1 := key2 hq
    rw [if_neg (fun q => q.elim e1 (fun q => q.elim e3 (fun q => by cases q.2)))]
    have hs := after_split hF hq
    by_cases hx : er = (afterF c F op cn t draw).2.1
    rotate_left
    · rw [if_neg (fun q => hx q.2)]
      have key3 : 0 ≤ (afterF c F op cn t draw).2.1 := by
        rcases hs with ⟨_, _, _, _, hav⟩ | ⟨_, _, hav⟩ | ⟨_, _, hav⟩ | ⟨_, _, hav⟩ | ⟨_, _, ⟨_, hav⟩ | ⟨_, hav⟩⟩ <;> rw [hav] <;> first | exact Int.le_refl 0 | decide
      by_cases e6 : er = 6
      · exact ⟨L, h, rfl, point_state_can h hl A cap hc clk k wk op cn t dr er draw a b d hF _ rfl e6 (by omega) (by omega)⟩
      · exact ⟨L, h, rfl, point_other h hl A cap hc clk k wk op cn t dr er draw a b d hF _ rfl ⟨e1, e3, e6⟩ (by omega) (by omega)⟩
    rw [if_pos ⟨rfl, hx⟩]
    clear key key2 hc1 hq e1 e3
    have hlen := h.len
    rcases hs with ⟨o1, ha, h0, h1, hav⟩ | ⟨o2, ha, hav⟩ | ⟨o3, ha, hav⟩ | ⟨o5, ha, hav⟩ | ⟨o4, ha, ⟨hb, hav⟩ | ⟨hb, hav⟩⟩
    · have hcan : abI (afterF c F op cn t draw) = 0 := by rw [hav]; rfl
      rw [hav] at hx ⊢
      exact ⟨L.set cn.toNat ⟨1, 0, t⟩, h.set cn 1 0 t h0 (by omega) (by simp), by simp, point_open h hl A cap hc clk k wk op cn t dr er draw a b d hF 0 hcan hx rfl o1 ⟨h0, by omega⟩⟩
    · have hcan : abI (afterF c F op cn t draw) = 0 := by rw [hav]; rfl
      have hin := hout (by omega)
      rw [hav] at hx ⊢
      by_cases ht : t ≤ d
      · rw [if_pos ht]
        exact ⟨L.set cn.toNat ⟨1, b, d⟩, h.set cn 1 b d hin.1 hin.2 (by simp), by simp, by intro w hr; have := point_touch_b h hl A cap hc clk k wk op cn t dr er draw a b d hF 0 hcan hx rfl o2 (by omega) hin w hr; rw [ha] at this; exact this⟩
      · rw [if_neg ht]
        exact ⟨L.set cn.toNat ⟨1, b, t⟩, h.set cn 1 b t hin.1 hin.2 (by simp), by simp, by intro w hr; have := point_touch_a h hl A cap hc clk k wk op cn t dr er draw a b d hF 0 hcan hx rfl o2 (by omega) hin w hr; rw [ha] at this; exact this⟩
    · have hcan : abI (afterF c F op cn t draw) = 0 := by rw [hav]; rfl
      have hin := hout ha
      rw [hav] at hx ⊢
      exact ⟨L.set cn.toNat ⟨0, 0, 0⟩, h.set cn 0 0 0 hin.1 hin.2 (by simp), by simp, point_close h hl A cap hc clk k wk op cn t dr er draw a b d hF 0 hcan hx rfl o3 hin⟩
    · have hcan : abI (afterF c F op cn t draw) = 0 := by rw [hav]; rfl
      have hin := hout (by omega)
      rw [hav] at hx ⊢
      exact ⟨L.set cn.toNat ⟨1, 0, t⟩, h.set cn 1 0 t hin.1 hin.2 (by simp), by simp, point_success h hl A cap hc clk k wk op cn t dr er draw a b d hF 0 hcan hx rfl o5 hin⟩
    · have hcan : abI (afterF c F op cn t draw) = 5 := by rw [hav]; rfl
      have hin := hout (by omega)
      rw [hav] at hx ⊢
      exact ⟨L.set cn.toNat ⟨0, 0, 0⟩, h.set cn 0 0 0 hin.1 hin.2 (by simp), by simp, point_fail_last h hl A cap hc clk k wk op cn t dr er draw a b d hF 5 hcan hx rfl o4 hin⟩
    · have hcan : abI (afterF c F op cn t draw) = 0 := by rw [hav]; rfl
      have hin := hout (by omega)
      rw [hav] at hx ⊢
      exact ⟨L.set cn.toNat ⟨2, wrap64 (b + 1), dueI c t b draw⟩, h.set cn 2 _ _ hin.1 hin.2 (by simp), by simp, point_fail_wait h hl A cap hc clk k wk op cn t dr er draw a b d hF 0 hcan hx rfl o4 hin⟩
end Go.Proofs.Ythljanmfanppdaa.Bk

namespace Go.Proofs.Ythljanmfanppdaa.Bk
open Go.RowKit Go.Maps Go.Proofs.YthljanmfanppdaaW.PrintWords Go.Proofs.YthljanmfanppdaaW.PrintLast Go.Proofs.YthljanmfanppdaaW.PrintMore Go.Proofs.Ythljanmfanppdaa.KRf
theorem rright_calls (k wk op cn t dr er : Int) (W : World) : Calls Try.prog 67 #[.agg (evA k wk op cn t dr er)] W fun e w' => e = .returned (.bool (lrB k wk op cn t dr er)) ∧ Below W.heap.size W w' :=
  knellref24_Right.calls 9 k wk op cn t dr er _ W (rright_is 0 k wk op cn t dr er)
theorem right_c (k wk op cn t dr er : Int) {v : Bool} (hv : lrB k wk op cn t dr er = v) : Aside0 (∀ W, Calls Try.prog 67 #[.agg (evA k wk op cn t dr er)] W fun e w' => e = .returned (.bool v) ∧ Below W.heap.size W w') := ⟨fun W => hv ▸ rright_calls k wk op cn t dr er W⟩
theorem ridle_is (c0 c1 c2 c3 c4 c5 c6 c7 c8 c9 c10 c11 c12 last : Int) (k : Nat) (hk : 40 ≤ k) : KBack.knellref23_Idle.f k c0 c1 c2 c3 c4 c5 c6 c7 c8 c9 c10 c11 c12 last = some (PureLk.idle c8 last) := by
  unfold KBack.knellref23_Idle.f
  rw [PureLk.rplus_is _ (by simp) k (by simp; omega)]
  rfl
theorem ridle_calls (c : Cf) (last : Int) (W : World) : Calls Try.prog 32 #[.agg c.cells, .int .i64 last] W fun e w' => e = .returned (.int .i64 (idleI c last)) ∧ Below W.heap.size W w' :=
  KBack.knellref23_Idle.calls 40 _ _ _ _ _ _ _ _ _ _ _ _ _ last _ W (ridle_is _ _ _ _ _ _ _ _ _ _ _ _ _ last 40 (Nat.le_refl _))
theorem lrB_k {k wk op cn t dr er : Int} (h : lrB k wk op cn t dr er = true) : k = 1 ∨ k = 2 ∨ k = 3 ∨ k = 4 ∨ k = 5 := by
  unfold lrB at h
  have h1 : lkOk k op = true := (Bool.and_eq_true _ _ ▸ h).1
  unfold lkOk at h1
  simp only [Bool.or_eq_true, Bool.and_eq_true, beq_iff_eq] at h1
  omega
theorem H3.clk {w W : World} {c : Cf} {clk : Int} {v : Value} {ev rs : Array Value} (h : H3 w W c clk v ev rs) (t : Int) : H3 w (W.setCell ⟨w.heap.size, 13, none⟩ (.int .i64 t)) c t v ev rs :=
  ⟨below_set h.below (Nat.le_refl _), blk_put h.b 13 _ rfl, (Below.heap_setCell _ _ _ _ (by simp)).trans h.e, (Below.heap_setCell _ _ _ _ (by simp; omega)).trans h.r⟩

def rdoR.T13 : Bool × List (List Nat × List Nat) := (true, [([], []), ([0], [0]), ([1], [1]), ([2], [2]), ([3], [3]), ([4, 3], [3, 4]), ([5, 3], [3, 5]), ([3, 6], [3, 6]), ([7, 3], [7]), ([8], [8]), ([9, 8], [8, 9]), ([8], [8]), ([11, 8], [8, 11]), ([10, 12, 8, 8], [8, 10, 12]), ([8], [8]), ([14, 8], [8, 14]), ([13, 15, 8], [8, 13, 15]), ([8, 16], [8, 16])])
def rdoR.B13 : List Nat := [0, 1, 3, 7, 15, 31, 63, 127, 255, 511, 1023, 511, 2559, 8191, 511, 16895, 65535, 131071]
theorem rdoR.tab13 : rtab .any (opsOf Try.f41 13) = rdoR.T13 := by kernel_rfl
theorem rdoR.bits13 : waitsOk rdoR.T13.2 rdoR.B13 = true := by kernel_rfl
theorem rdo_form {c : Cf} {F : SM} {L : List S71} (h : Tie c F L) (hl : L.length ≤ 1000000) (A : Option Addr) (cap : Nat) (hc : L.length ≤ cap) (clk k wk op cn t dr er draw a b d : Int) (hF : F.at_ cn = (a, b, d)) (v : Bool) (hv : lrB k wk op cn t dr er = v) (v1 : v = false) (w : World) (hr : Kd.C k71 w A L.length L) :
    Calls Try.prog 41 #[.agg (rbA c clk (.slice A L.length cap)), .agg (evA k wk op cn t dr er), .int .i64 draw] w (PtPost c (clk) A cap L (L) (8) w) := by
  have hu1 := Try.underlying66
  have hu2 := Try.underlying71
  have hu3 := Try.underlying54
  have hu4 := Try.underlying33
  have CRt := right_c k wk op cn t dr er hv
  subst v1
  have HR := Aside0.mk hr
  have HC := Aside0.mk hc
  have HS := Aside0.mk (H3.start w c clk (.slice A L.length cap) (evA k wk op cn t dr er))
  clear h hr hF hc hl hv 
  go_enter Try.func41, Try.ntmps41
  go_wp2_with (first | (go_at_call 67; (with_reducible refine (CRt.out _).mono ?_); rintro e w1 ⟨rfl, hb⟩; have H1 := Aside0.mk (HS.out.step hb); have hl1 := blk_lt H1.out.b; have hl2 := blk_lt H1.out.e; have hl3 := blk_lt H1.out.r; have hcb := fun i => blk_cell H1.out.b i; have hce := fun i => blk_cell H1.out.e i; have hfb := fun i => blk_frozen H1.out.b i; clear hb) | ((with_reducible refine gate_store (t := 66) (p := 6) rfl ?_); refine wpList_store_row rfl 66 _ _ rfl (w.heap.size + 1 + 1) (rbA c clk (.slice A L.length cap)) rfl rfl 66 _ H1.out.r (by kernel_rfl) (by kernel_rfl) (by kernel_rfl) ?_; have HP := Aside0.mk (H1.out.put (rbA c clk (.slice A L.length cap)))))
  have hr9 := HP.out.r
  refine bodyPost_ret (v := .tuple #[.agg (rbA c clk (.slice A L.length cap)), .int .i64 (8)]) ?_ rfl ⟨A, cap, ?_, HC.out, ?_, HP.out.below⟩
  · have hrow := run_loadVar_row (P := Try.prog) _ (w.heap.size + 1 + 1) 66 66 _ (0, 0) _ hr9 hu1 rfl bk_desc
    simp [results, Try.results41, asAddr, hrow]
  · rfl
  · exact .inl ⟨rfl, rfl, rfl⟩

theorem rdo_two {c : Cf} {F : SM} {L : List S71} (h : Tie c F L) (hl : L.length ≤ 1000000) (A : Option Addr) (cap : Nat) (hc : L.length ≤ cap) (clk k wk op cn t dr er draw a b d : Int) (hF : F.at_ cn = (a, b, d)) (v : Bool) (hv : lrB k wk op cn t dr er = v) (v1 : v = true) (h1 : k = 2) (w : World) (hr : Kd.C k71 w A L.length L) :
    Calls Try.prog 41 #[.agg (rbA c clk (.slice A L.length cap)), .agg (evA k wk op cn t dr er), .int .i64 draw] w (PtPost c (clk) A cap L (L) (8) w) := by
  have hu1 := Try.underlying66
  have hu2 := Try.underlying71
  have hu3 := Try.underlying54
  have hu4 := Try.underlying33
  have CRt := right_c k wk op cn t dr er hv
  subst v1
  have k2 : (k == 2) = true := beq_iff_eq.2 (by omega)
  have HR := Aside0.mk hr
  have HC := Aside0.mk hc
  have HS := Aside0.mk (H3.start w c clk (.slice A L.length cap) (evA k wk op cn t dr er))
  clear h hr hF hc hl hv h1
  go_enter Try.func41, Try.ntmps41
  go_wp2_with (first | (go_at_call 67; (with_reducible refine (CRt.out _).mono ?_); rintro e w1 ⟨rfl, hb⟩; have H1 := Aside0.mk (HS.out.step hb); have hl1 := blk_lt H1.out.b; have hl2 := blk_lt H1.out.e; have hl3 := blk_lt H1.out.r; have hcb := fun i => blk_cell H1.out.b i; have hce := fun i => blk_cell H1.out.e i; have hfb := fun i => blk_frozen H1.out.b i; clear hb) | ((with_reducible refine gate_store (t := 66) (p := 6) rfl ?_); refine wpList_store_row rfl 66 _ _ rfl (w.heap.size + 1 + 1) (rbA c clk (.slice A L.length cap)) rfl rfl 66 _ H1.out.r (by kernel_rfl) (by kernel_rfl) (by kernel_rfl) ?_; have HP := Aside0.mk (H1.out.put (rbA c clk (.slice A L.length cap)))))
  have hr9 := HP.out.r
  refine bodyPost_ret (v := .tuple #[.agg (rbA c clk (.slice A L.length cap)), .int .i64 (8)]) ?_ rfl ⟨A, cap, ?_, HC.out, ?_, HP.out.below⟩
  · have hrow := run_loadVar_row (P := Try.prog) _ (w.heap.size + 1 + 1) 66 66 _ (0, 0) _ hr9 hu1 rfl bk_desc
    simp [results, Try.results41, asAddr, hrow]
  · rfl
  · exact .inl ⟨rfl, rfl, rfl⟩

theorem rdo_five {c : Cf} {F : SM} {L : List S71} (h : Tie c F L) (hl : L.length ≤ 1000000) (A : Option Addr) (cap : Nat) (hc : L.length ≤ cap) (clk k wk op cn t dr er draw a b d : Int) (hF : F.at_ cn = (a, b, d)) (v : Bool) (hv : lrB k wk op cn t dr er = v) (v1 : v = true) (h1 : k = 5) (w : World) (hr : Kd.C k71 w A L.length L) :
    Calls Try.prog 41 #[.agg (rbA c clk (.slice A L.length cap)), .agg (evA k wk op cn t dr er), .int .i64 draw] w (PtPost c (clk) A cap L (L) (8) w) := by
  have hu1 := Try.underlying66
  have hu2 := Try.underlying71
  have hu3 := Try.underlying54
  have hu4 := Try.underlying33
  have CRt := right_c k wk op cn t dr er hv
  subst v1
  have k2 : (k == 2) = false := beq_eq_false_iff_ne.2 (by omega)
  have k5 : (k == 5) = true := beq_iff_eq.2 (by omega)
  have HR := Aside0.mk hr
  have HC := Aside0.mk hc
  have HS := Aside0.mk (H3.start w c clk (.slice A L.length cap) (evA k wk op cn t dr er))
  clear h hr hF hc hl hv h1
  go_enter Try.func41, Try.ntmps41
  go_wp2_with (first | (go_at_call 67; (with_reducible refine (CRt.out _).mono ?_); rintro e w1 ⟨rfl, hb⟩; have H1 := Aside0.mk (HS.out.step hb); have hl1 := blk_lt H1.out.b; have hl2 := blk_lt H1.out.e; have hl3 := blk_lt H1.out.r; have hcb := fun i => blk_cell H1.out.b i; have hce := fun i => blk_cell H1.out.e i; have hfb := fun i => blk_frozen H1.out.b i; clear hb) | ((with_reducible refine gate_store (t := 66) (p := 6) rfl ?_); refine wpList_store_row rfl 66 _ _ rfl (w.heap.size + 1 + 1) (rbA c clk (.slice A L.length cap)) rfl rfl 66 _ H1.out.r (by kernel_rfl) (by kernel_rfl) (by kernel_rfl) ?_; have HP := Aside0.mk (H1.out.put (rbA c clk (.slice A L.length cap)))))
  have hr9 := HP.out.r
  refine bodyPost_ret (v := .tuple #[.agg (rbA c clk (.slice A L.length cap)), .int .i64 (8)]) ?_ rfl ⟨A, cap, ?_, HC.out, ?_, HP.out.below⟩
  · have hrow := run_loadVar_row (P := Try.prog) _ (w.heap.size + 1 + 1) 66 66 _ (0, 0) _ hr9 hu1 rfl bk_desc
    simp [results, Try.results41, asAddr, hrow]
  · rfl
  · exact .inl ⟨rfl, rfl, rfl⟩

theorem rdo_tick_no {c : Cf} {F : SM} {L : List S71} (h : Tie c F L) (hl : L.length ≤ 1000000) (A : Option Addr) (cap : Nat) (hc : L.length ≤ cap) (clk k wk op cn t dr er draw a b d : Int) (hF : F.at_ cn = (a, b, d)) (v : Bool) (hv : lrB k wk op cn t dr er = v) (v1 : v = true) (h1 : k = 1) (h2 : ¬ t = wrap64 (clk + 1)) (w : World) (hr : Kd.C k71 w A L.length L) :
    Calls Try.prog 41 #[.agg (rbA c clk (.slice A L.length cap)), .agg (evA k wk op cn t dr er), .int .i64 draw] w (PtPost c (clk) A cap L (L) (6) w) := by
  have hu1 := Try.underlying66
  have hu2 := Try.underlying71
  have hu3 := Try.underlying54
  have hu4 := Try.underlying33
  have CRt := right_c k wk op cn t dr er hv
  subst v1
  have k2 : (k == 2) = false := beq_eq_false_iff_ne.2 (by omega)
  have k5 : (k == 5) = false := beq_eq_false_iff_ne.2 (by omega)
  have k3 : (k == 3) = false := beq_eq_false_iff_ne.2 (by omega)
  have k1 : (k == 1) = true := beq_iff_eq.2 (by omega)
  have q1 : (t != wrap64 (clk + 1)) = true := bne_iff_ne.2 h2
  have HR := Aside0.mk hr
  have HC := Aside0.mk hc
  have HS := Aside0.mk (H3.start w c clk (.slice A L.length cap) (evA k wk op cn t dr er))
  clear h hr hF hc hl hv h1 h2
  go_enter Try.func41, Try.ntmps41
  go_wp2_with (first | (go_at_call 67; (with_reducible refine (CRt.out _).mono ?_); rintro e w1 ⟨rfl, hb⟩; have H1 := Aside0.mk (HS.out.step hb); have hl1 := blk_lt H1.out.b; have hl2 := blk_lt H1.out.e; have hl3 := blk_lt H1.out.r; have hcb := fun i => blk_cell H1.out.b i; have hce := fun i => blk_cell H1.out.e i; have hfb := fun i => blk_frozen H1.out.b i; clear hb) | ((with_reducible refine gate_store (t := 66) (p := 6) rfl ?_); refine wpList_store_row rfl 66 _ _ rfl (w.heap.size + 1 + 1) (rbA c clk (.slice A L.length cap)) rfl rfl 66 _ H1.out.r (by kernel_rfl) (by kernel_rfl) (by kernel_rfl) ?_; have HP := Aside0.mk (H1.out.put (rbA c clk (.slice A L.length cap)))))
  have hr9 := HP.out.r
  refine bodyPost_ret (v := .tuple #[.agg (rbA c clk (.slice A L.length cap)), .int .i64 (6)]) ?_ rfl ⟨A, cap, ?_, HC.out, ?_, HP.out.below⟩
  · have hrow := run_loadVar_row (P := Try.prog) _ (w.heap.size + 1 + 1) 66 66 _ (0, 0) _ hr9 hu1 rfl bk_desc
    simp [results, Try.results41, asAddr, hrow]
  · rfl
  · exact .inl ⟨rfl, rfl, rfl⟩

theorem rdo_tick {c : Cf} {F : SM} {L : List S71} (h : Tie c F L) (hl : L.length ≤ 1000000) (A : Option Addr) (cap : Nat) (hc : L.length ≤ cap) (clk k wk op cn t dr er draw a b d : Int) (hF : F.at_ cn = (a, b, d)) (v : Bool) (hv : lrB k wk op cn t dr er = v) (v1 : v = true) (h1 : k = 1) (h2 : t = wrap64 (clk + 1)) (w : World) (hr : Kd.C k71 w A L.length L) :
    Calls Try.prog 41 #[.agg (rbA c clk (.slice A L.length cap)), .agg (evA k wk op cn t dr er), .int .i64 draw] w (PtPost c (t) A cap L (L) (0) w) := by
  have hu1 := Try.underlying66
  have hu2 := Try.underlying71
  have hu3 := Try.underlying54
  have hu4 := Try.underlying33
  have CRt := right_c k wk op cn t dr er hv
  subst v1
  have k2 : (k == 2) = false := beq_eq_false_iff_ne.2 (by omega)
  have k5 : (k == 5) = false := beq_eq_false_iff_ne.2 (by omega)
  have k3 : (k == 3) = false := beq_eq_false_iff_ne.2 (by omega)
  have k1 : (k == 1) = true := beq_iff_eq.2 (by omega)
  have q1 : (t != wrap64 (clk + 1)) = false := bne_eq_false_iff_eq.2 h2
  have HR := Aside0.mk hr
  have HC := Aside0.mk hc
  have HS := Aside0.mk (H3.start w c clk (.slice A L.length cap) (evA k wk op cn t dr er))
  clear h hr hF hc hl hv h1 h2
  go_enter Try.func41, Try.ntmps41
  go_wp2_with (first | (go_at_call 67; (with_reducible refine (CRt.out _).mono ?_); rintro e w1 ⟨rfl, hb⟩; have H1 := Aside0.mk (HS.out.step hb); have hl1 := blk_lt H1.out.b; have hl2 := blk_lt H1.out.e; have hl3 := blk_lt H1.out.r; have hcb := fun i => blk_cell H1.out.b i; have hce := fun i => blk_cell H1.out.e i; have hfb := fun i => blk_frozen H1.out.b i; clear hb) | ((with_reducible refine gate_store (t := 66) (p := 6) rfl ?_); refine wpList_store_row rfl 66 _ _ rfl (w.heap.size + 1 + 1) (rbA c t (.slice A L.length cap)) rfl rfl 66 _ (Aside0.mk (H1.out.clk t)).out.r (by kernel_rfl) (by kernel_rfl) (by kernel_rfl) ?_; have HP := Aside0.mk ((Aside0.mk (H1.out.clk t)).out.put (rbA c t (.slice A L.length cap)))))
  have hr9 := HP.out.r
  refine bodyPost_ret (v := .tuple #[.agg (rbA c t (.slice A L.length cap)), .int .i64 (0)]) ?_ rfl ⟨A, cap, ?_, HC.out, ?_, HP.out.below⟩
  · have hrow := run_loadVar_row (P := Try.prog) _ (w.heap.size + 1 + 1) 66 66 _ (0, 0) _ hr9 hu1 rfl bk_desc
    simp [results, Try.results41, asAddr, hrow]
  · rfl
  · exact .inl ⟨rfl, rfl, rfl⟩

theorem rdo_point {c : Cf} {F : SM} {L : List S71} (h : Tie c F L) (hl : L.length ≤ 1000000) (A : Option Addr) (cap : Nat) (hc : L.length ≤ cap) (clk k wk op cn t dr er draw a b d : Int) (hF : F.at_ cn = (a, b, d)) (v : Bool) (hv : lrB k wk op cn t dr er = v) (v1 : v = true) (h1 : k = 3) (L2 : List S71) (code : Int) (w : World) (hp : ∀ W, Below w.heap.size w W → Calls Try.prog 68 #[.agg (rbA c clk (.slice A L.length cap)), .agg (evA k wk op cn t dr er), .int .i64 draw] W (PtPost c clk A cap L L2 code W)) (hr : Kd.C k71 w A L.length L) :
    Calls Try.prog 41 #[.agg (rbA c clk (.slice A L.length cap)), .agg (evA k wk op cn t dr er), .int .i64 draw] w (PtPost c (clk) A cap L (L2) (code) w) := by
  have hu1 := Try.underlying66
  have hu2 := Try.underlying71
  have hu3 := Try.underlying54
  have hu4 := Try.underlying33
  have CRt := right_c k wk op cn t dr er hv
  subst v1
  have k2 : (k == 2) = false := beq_eq_false_iff_ne.2 (by omega)
  have k5 : (k == 5) = false := beq_eq_false_iff_ne.2 (by omega)
  have k3 : (k == 3) = true := beq_iff_eq.2 (by omega)
  have CP := Aside0.mk hp
  have HR := Aside0.mk hr
  have HC := Aside0.mk hc
  have HS := Aside0.mk (H3.start w c clk (.slice A L.length cap) (evA k wk op cn t dr er))
  clear h hr hF hc hl hv h1 hp
  go_enter Try.func41, Try.ntmps41
  go_wp2_with (first | (go_at_call 67; (with_reducible refine (CRt.out _).mono ?_); rintro e w1 ⟨rfl, hb⟩; have H1 := Aside0.mk (HS.out.step hb); have hl1 := blk_lt H1.out.b; have hl2 := blk_lt H1.out.e; have hl3 := blk_lt H1.out.r; have hcb := fun i => blk_cell H1.out.b i; have hce := fun i => blk_cell H1.out.e i; have hfb := fun i => blk_frozen H1.out.b i; clear hb) | (go_at_call 68; (with_reducible refine (CP.out _ H1.out.below).mono ?_); rintro e w3 ⟨A9, cap9, rfl, hc9, hR9, hb⟩; have H4 := Aside0.mk (H1.out.step hb); have HC9 : Aside0 ((A9 = A ∧ cap9 = cap ∧ L2 = L) ∨ Kd.R k71 71 w3 w.heap.size (fun _ => True) (.slice A9 L2.length cap9) L2) := ⟨hR9.imp id (fun q => Kd.R_lower q H1.out.below.size)⟩; have HD9 := Aside0.mk hc9; clear hl1 hl2 hl3 hcb hce hfb; have hl1 := blk_lt H4.out.b; have hl2 := blk_lt H4.out.e; have hl3 := blk_lt H4.out.r; clear hb hR9 hc9) | ((with_reducible refine gate_store (t := 66) (p := 6) rfl ?_); refine wpList_store_row rfl 66 _ _ rfl (w.heap.size + 1 + 1) (rbA c clk (.slice A9 L2.length cap9)) rfl rfl 66 _ H4.out.r (by kernel_rfl) (by kernel_rfl) (by kernel_rfl) ?_; have HP := Aside0.mk (H4.out.put (rbA c clk (.slice A9 L2.length cap9))); have HC9P : Aside0 ((A9 = A ∧ cap9 = cap ∧ L2 = L) ∨ Kd.R k71 71 (w3.setRow (w.heap.size + 1 + 1) (rbA c clk (.slice A9 L2.length cap9))) w.heap.size (fun _ => True) (.slice A9 L2.length cap9) L2) := ⟨HC9.out.imp id (fun q => Kd.R_mono (R_row (cs' := (rbA c clk (.slice A9 L2.length cap9))) q H4.out.r) (fun _ _ => trivial))⟩))
  have hr9 := HP.out.r
  refine bodyPost_ret (v := .tuple #[.agg (rbA c clk (.slice A9 L2.length cap9)), .int .i64 code]) ?_ rfl ⟨A9, cap9, rfl, HD9.out, HC9P.out, HP.out.below⟩
  have hrow := run_loadVar_row (P := Try.prog) _ (w.heap.size + 1 + 1) 66 66 _ (0, 0) _ hr9 hu1 rfl bk_desc
  simp [results, Try.results41, asAddr, hrow]

theorem rdo_late {c : Cf} {F : SM} {L : List S71} (h : Tie c F L) (hl : L.length ≤ 1000000) (A : Option Addr) (cap : Nat) (hc : L.length ≤ cap) (clk k wk op cn t dr er draw a b d : Int) (hF : F.at_ cn = (a, b, d)) (v : Bool) (hv : lrB k wk op cn t dr er = v) (v1 : v = true) (h1 : k = 4) (h2 : t > clk) (w : World) (hr : Kd.C k71 w A L.length L) :
    Calls Try.prog 41 #[.agg (rbA c clk (.slice A L.length cap)), .agg (evA k wk op cn t dr er), .int .i64 draw] w (PtPost c (clk) A cap L (L) (6) w) := by
  have hu1 := Try.underlying66
  have hu2 := Try.underlying71
  have hu3 := Try.underlying54
  have hu4 := Try.underlying33
  have CRt := right_c k wk op cn t dr er hv
  subst v1
  have k2 : (k == 2) = false := beq_eq_false_iff_ne.2 (by omega)
  have k5 : (k == 5) = false := beq_eq_false_iff_ne.2 (by omega)
  have k3 : (k == 3) = false := beq_eq_false_iff_ne.2 (by omega)
  have k1 : (k == 1) = false := beq_eq_false_iff_ne.2 (by omega)
  have CAt := Aside0.mk (fun W hb => at_calls h A cap hc clk cn a b d hF w hr W hb)
  have q1 : decide (t > clk) = true := decide_eq_true h2
  have HR := Aside0.mk hr
  have HC := Aside0.mk hc
  have HS := Aside0.mk (H3.start w c clk (.slice A L.length cap) (evA k wk op cn t dr er))
  clear h hr hF hc hl hv h1 h2
  go_enter Try.func41, Try.ntmps41
  go_wp2_with (first | (go_at_call 67; (with_reducible refine (CRt.out _).mono ?_); rintro e w1 ⟨rfl, hb⟩; have H1 := Aside0.mk (HS.out.step hb); have hl1 := blk_lt H1.out.b; have hl2 := blk_lt H1.out.e; have hl3 := blk_lt H1.out.r; have hcb := fun i => blk_cell H1.out.b i; have hce := fun i => blk_cell H1.out.e i; have hfb := fun i => blk_frozen H1.out.b i; clear hb) | (go_at_call 43; (with_reducible refine (CAt.out _ H1.out.below).mono ?_); rintro e w2 ⟨rfl, hb⟩; have H2 := Aside0.mk (H1.out.step hb); clear hl1 hl2 hl3 hcb hce; have hl1 := blk_lt H2.out.b; have hl2 := blk_lt H2.out.e; have hl3 := blk_lt H2.out.r; have hcb := fun i => blk_cell H2.out.b i; have hce := fun i => blk_cell H2.out.e i; clear hb) | ((with_reducible refine gate_store (t := 66) (p := 6) rfl ?_); refine wpList_store_row rfl 66 _ _ rfl (w.heap.size + 1 + 1) (rbA c clk (.slice A L.length cap)) rfl rfl 66 _ (Aside0.mk (H2.out.alloc (.cells #[.int .i64 a, .int .i64 b, .int .i64 d] 71))).out.r (by kernel_rfl) (by kernel_rfl) (by kernel_rfl) ?_; have HP := Aside0.mk ((Aside0.mk (H2.out.alloc (.cells #[.int .i64 a, .int .i64 b, .int .i64 d] 71))).out.put (rbA c clk (.slice A L.length cap)))))
  have hr9 := HP.out.r
  refine bodyPost_ret (v := .tuple #[.agg (rbA c clk (.slice A L.length cap)), .int .i64 (6)]) ?_ rfl ⟨A, cap, ?_, HC.out, ?_, HP.out.below⟩
  · have hrow := run_loadVar_row (P := Try.prog) _ (w.heap.size + 1 + 1) 66 66 _ (0, 0) _ hr9 hu1 rfl bk_desc
    simp [results, Try.results41, asAddr, hrow]
  · rfl
  · exact .inl ⟨rfl, rfl, rfl⟩

theorem rdo_seven1 {c : Cf} {F : SM} {L : List S71} (h : Tie c F L) (hl : L.length ≤ 1000000) (A : Option Addr) (cap : Nat) (hc : L.length ≤ cap) (clk k wk op cn t dr er draw a b d : Int) (hF : F.at_ cn = (a, b, d)) (v : Bool) (hv : lrB k wk op cn t dr er = v) (v1 : v = true) (h1 : k = 4) (h2 : ¬ t > clk) (h4 : op = 7) (h5 : a = 1) (hin : a ≠ 0 → 0 ≤ cn ∧ cn < (L.length : Int)) (w : World) (hr : Kd.C k71 w A L.length L) :
    Calls Try.prog 41 #[.agg (rbA c clk (.slice A L.length cap)), .agg (evA k wk op cn t dr er), .int .i64 draw] w (if idleI c d ≤ t then PtPost c clk A cap L (L.set cn.toNat ⟨0, 0, 0⟩) 0 w else PtPost c clk A cap L L 6 w) := by
  have hu1 := Try.underlying66
  have hu2 := Try.underlying71
  have hu3 := Try.underlying54
  have hu4 := Try.underlying33
  have CRt := right_c k wk op cn t dr er hv
  subst v1
  have k2 : (k == 2) = false := beq_eq_false_iff_ne.2 (by omega)
  have k5 : (k == 5) = false := beq_eq_false_iff_ne.2 (by omega)
  have k3 : (k == 3) = false := beq_eq_false_iff_ne.2 (by omega)
  have k1 : (k == 1) = false := beq_eq_false_iff_ne.2 (by omega)
  have CAt := Aside0.mk (fun W hb => at_calls h A cap hc clk cn a b d hF w hr W hb)
  have q1 : decide (t > clk) = false := decide_eq_false h2
  have o7 : (op == 7) = true := beq_iff_eq.2 (by omega)
  have a1 : (a == 1) = true := beq_iff_eq.2 (by omega)
  have o8 : (op == 8) = false := beq_eq_false_iff_ne.2 (by omega)
  have hi2 := hin (by omega)
  have CSt := Aside0.mk (fun W hb => rset_calls hl c clk A cap hc cn (0) (0) (0) hi2.1 hi2.2 w hr W hb)
  clear hi2
  have CId := Aside0.mk (fun W => ridle_calls c d W)
  have HR := Aside0.mk hr
  have HC := Aside0.mk hc
  have HS := Aside0.mk (H3.start w c clk (.slice A L.length cap) (evA k wk op cn t dr er))
  clear h hr hF hc hl hv h1 h2 h4 h5 hin
  go_enter Try.func41, Try.ntmps41
  go_wp2_with (first | (go_at_call 67; (with_reducible refine (CRt.out _).mono ?_); rintro e w1 ⟨rfl, hb⟩; have H1 := Aside0.mk (HS.out.step hb); have hl1 := blk_lt H1.out.b; have hl2 := blk_lt H1.out.e; have hl3 := blk_lt H1.out.r; have hcb := fun i => blk_cell H1.out.b i; have hce := fun i => blk_cell H1.out.e i; have hfb := fun i => blk_frozen H1.out.b i; clear hb) | (go_at_call 43; (with_reducible refine (CAt.out _ H1.out.below).mono ?_); rintro e w2 ⟨rfl, hb⟩; have H2 := Aside0.mk (H1.out.step hb); clear hl1 hl2 hl3 hcb hce; have hl1 := blk_lt H2.out.b; have hl2 := blk_lt H2.out.e; have hl3 := blk_lt H2.out.r; have hcb := fun i => blk_cell H2.out.b i; have hce := fun i => blk_cell H2.out.e i; clear hb))
  have HS5 := Aside0.mk (H2.out.alloc (.cells #[.int .i64 a, .int .i64 b, .int .i64 d] 71)).drew
  have HT5 : Aside0 ((w2.alloc (.cells #[.int .i64 a, .int .i64 b, .int .i64 d] 71)).drew.heap[w2.heap.size]? = some (.cells #[.int .i64 a, .int .i64 b, .int .i64 d] 71 (0, 0))) := ⟨(blk_new w2 _ : _)⟩
  refine start_ (n := 18) (S := (fun w' => (∀ i, w'.cell? ⟨w.heap.size, i, none⟩ = ((rbA c clk (.slice A L.length cap)))[i]?) ∧ (∀ i, w'.cell? ⟨w.heap.size + 1, i, none⟩ = (evA k wk op cn t dr er)[i]?) ∧ (∀ i, w'.cell? ⟨w2.heap.size, i, none⟩ = (#[.int .i64 a, .int .i64 b, .int .i64 d] : Array Value)[i]?))) (ds := []) #[false, false, false, false, false, false, false, false, false, false, false, false, false, false, false, false, false, false] (by kernel_rfl) rfl rfl (cells3 HS5.out HT5.out) (fun hHeld => ?_)
  refine with_tabW rdoR.tab13 rdoR.bits13 (fun HT_ HW_ => ?_)
  have H5 := Aside0.mk (H2.out.alloc (.cells #[.int .i64 a, .int .i64 b, .int .i64 d] 71)).drew
  have HT7 : Aside0 ((w2.alloc (.cells #[.int .i64 a, .int .i64 b, .int .i64 d] 71)).drew.heap[w2.heap.size]? = some (.cells #[.int .i64 a, .int .i64 b, .int .i64 d] 71 (0, 0))) := ⟨(blk_new w2 _ : _)⟩
  generalize (w2.alloc (.cells #[.int .i64 a, .int .i64 b, .int .i64 d] 71)).drew = w5 at H5 HT7 hHeld ⊢
  refine pure_ (i := 0) (N := (some 56)) (v := ?_) (a' := ?_) #[true, false, false, false, false, false, false, false, false, false, false, false, false, false, false, false, false, false] rfl rfl (any_of HT_.out (by kernel_rfl)) (fun _ _ _ h => h) (Or.inl ⟨by rfl, ?_⟩) ?_ ?_
  rotate_left
  · intro w'
    go_simp
    with_reducible rfl
  rotate_left
  · simp only [Act.put, setIfInBounds_toArray, set_cons_zero, set_cons_succ, i64_w, i32_w]
    rfl
  refine take_ (i := 1) (N := (some 57)) (v := ?_) (a' := ?_) #[true, true, false, false, false, false, false, false, false, false, false, false, false, false, false, false, false, false] rfl rfl (take_ofW HT_.out HW_.out (by kernel_rfl)) (fun _ _ _ h => h) (Or.inl ⟨by rfl, ?_⟩) hHeld ?_ ?_
  rotate_left
  · rintro w' ⟨s0, s1, s2⟩
    go_simp
    with_reducible rfl
  rotate_left
  · simp only [Act.put, setIfInBounds_toArray, set_cons_zero, set_cons_succ, i64_w, i32_w]
    rfl
  refine pure_ (i := 2) (N := (some 58)) (v := ?_) (a' := ?_) #[true, true, true, false, false, false, false, false, false, false, false, false, false, false, false, false, false, false] rfl rfl (any_of HT_.out (by kernel_rfl)) (fun _ _ _ h => h) (Or.inl ⟨by rfl, ?_⟩) ?_ ?_
  rotate_left
  · intro w'
    go_simp
    with_reducible rfl
  rotate_left
  · simp only [Act.put, setIfInBounds_toArray, set_cons_zero, set_cons_succ, i64_w, i32_w]
    rfl
  refine pure_ (i := 3) (N := (some 59)) (v := ?_) (a' := ?_) #[true, true, true, true, false, false, false, false, false, false, false, false, false, false, false, false, false, false] rfl rfl (any_of HT_.out (by kernel_rfl)) (fun _ _ _ h => h) (Or.inl ⟨by rfl, ?_⟩) ?_ ?_
  rotate_left
  · intro w'
    go_simp
    with_reducible rfl
  rotate_left
  · simp only [Act.put, setIfInBounds_toArray, set_cons_zero, set_cons_succ, i64_w, i32_w]
    rfl
  refine pure_ (i := 4) (N := (some 60)) (v := ?_) (a' := ?_) #[true, true, true, true, true, false, false, false, false, false, false, false, false, false, false, false, false, false] rfl rfl (any_of HT_.out (by kernel_rfl)) (fun _ _ _ h => h) (Or.inl ⟨by rfl, ?_⟩) ?_ ?_
  rotate_left
  · intro w'
    go_simp
    with_reducible rfl
  rotate_left
  · simp only [Act.put, setIfInBounds_toArray, set_cons_zero, set_cons_succ, i64_w, i32_w]
    rfl
  refine take_ (i := 5) (N := (some 61)) (v := ?_) (a' := ?_) #[true, true, true, true, true, true, false, false, false, false, false, false, false, false, false, false, false, false] rfl rfl (take_ofW HT_.out HW_.out (by kernel_rfl)) (fun _ _ _ h => h) (Or.inl ⟨by rfl, ?_⟩) hHeld ?_ ?_
  rotate_left
  · rintro w' ⟨s0, s1, s2⟩
    go_simp
    with_reducible rfl
  rotate_left
  · simp only [Act.put, setIfInBounds_toArray, set_cons_zero, set_cons_succ, i64_w, i32_w]
    rfl
  refine pure_ (i := 6) (N := (some 62)) (v := ?_) (a' := ?_) #[true, true, true, true, true, true, true, false, false, false, false, false, false, false, false, false, false, false] rfl rfl (any_of HT_.out (by kernel_rfl)) (fun _ _ _ h => h) (Or.inl ⟨by rfl, ?_⟩) ?_ ?_
  rotate_left
  · intro w'
    go_simp
    with_reducible rfl
  rotate_left
  · simp only [Act.put, setIfInBounds_toArray, set_cons_zero, set_cons_succ, i64_w, i32_w]
    rfl
  refine pure_ (i := 7) (N := (some 63)) (v := ?_) (a' := ?_) #[true, true, true, true, true, true, true, true, false, false, false, false, false, false, false, false, false, false] rfl rfl (any_of HT_.out (by kernel_rfl)) (fun _ _ _ h => h) (Or.inl ⟨by rfl, ?_⟩) ?_ ?_
  rotate_left
  · intro w'
    go_simp
    with_reducible rfl
  rotate_left
  · simp only [Act.put, setIfInBounds_toArray, set_cons_zero, set_cons_succ, i64_w, i32_w]
    rfl
  refine pure_ (i := 8) (N := (some 64)) (v := ?_) (a' := ?_) #[true, true, true, true, true, true, true, true, true, false, false, false, false, false, false, false, false, false] rfl rfl (any_of HT_.out (by kernel_rfl)) (fun _ _ _ h => h) (Or.inl ⟨by rfl, ?_⟩) ?_ ?_
  rotate_left
  · intro w'
    go_simp
    with_reducible rfl
  rotate_left
  · simp only [Act.put, setIfInBounds_toArray, set_cons_zero, set_cons_succ, i64_w, i32_w]
    rfl
  refine pure_ (i := 9) (N := (some 65)) (v := ?_) (a' := ?_) #[true, true, true, true, true, true, true, true, true, true, false, false, false, false, false, false, false, false] rfl rfl (any_of HT_.out (by kernel_rfl)) (fun _ _ _ h => h) (Or.inl ⟨by rfl, ?_⟩) ?_ ?_
  rotate_left
  · intro w'
    go_simp
    with_reducible rfl
  rotate_left
  · simp only [Act.put, setIfInBounds_toArray, set_cons_zero, set_cons_succ, i64_w, i32_w]
    rfl
  refine pure_ (i := 11) (N := (some 67)) (v := ?_) (a' := ?_) #[true, true, true, true, true, true, true, true, true, true, false, true, false, false, false, false, false, false] rfl rfl (any_of HT_.out (by kernel_rfl)) (fun _ _ _ h => h) (Or.inl ⟨by rfl, ?_⟩) ?_ ?_
  rotate_left
  · intro w'
    go_simp
    with_reducible rfl
  rotate_left
  · simp only [Act.put, setIfInBounds_toArray, set_cons_zero, set_cons_succ, i64_w, i32_w]
    rfl
  refine pure_ (i := 14) (N := (some 70)) (v := ?_) (a' := ?_) #[true, true, true, true, true, true, true, true, true, true, false, true, false, false, true, false, false, false] rfl rfl (any_of HT_.out (by kernel_rfl)) (fun _ _ _ h => h) (Or.inl ⟨by rfl, ?_⟩) ?_ ?_
  rotate_left
  · intro w'
    go_simp
    with_reducible rfl
  rotate_left
  · simp only [Act.put, setIfInBounds_toArray, set_cons_zero, set_cons_succ, i64_w, i32_w]
    rfl
  refine take_ (i := 10) (N := (some 66)) (v := ?_) (a' := ?_) #[true, true, true, true, true, true, true, true, true, true, true, true, false, false, true, false, false, false] rfl rfl (take_ofW HT_.out HW_.out (by kernel_rfl)) (fun _ _ _ h => h) (Or.inl ⟨by rfl, ?_⟩) hHeld ?_ ?_
  rotate_left
  · rintro w' ⟨s0, s1, s2⟩
    go_simp
    with_reducible rfl
  rotate_left
  · simp only [Act.put, setIfInBounds_toArray, set_cons_zero, set_cons_succ, i64_w, i32_w]
    rfl
  refine take_ (i := 12) (N := (some 68)) (v := ?_) (a' := ?_) #[true, true, true, true, true, true, true, true, true, true, true, true, true, false, true, false, false, false] rfl rfl (take_ofW HT_.out HW_.out (by kernel_rfl)) (fun _ _ _ h => h) (Or.inl ⟨by rfl, ?_⟩) hHeld ?_ ?_
  rotate_left
  · rintro w' ⟨s0, s1, s2⟩
    go_simp
    with_reducible rfl
  rotate_left
  · simp only [Act.put, setIfInBounds_toArray, set_cons_zero, set_cons_succ, i64_w, i32_w]
    rfl
  refine take_ (i := 15) (N := (some 71)) (v := ?_) (a' := ?_) #[true, true, true, true, true, true, true, true, true, true, true, true, true, false, true, true, false, false] rfl rfl (take_ofW HT_.out HW_.out (by kernel_rfl)) (fun _ _ _ h => h) (Or.inl ⟨by rfl, ?_⟩) hHeld ?_ ?_
  rotate_left
  · rintro w' ⟨s0, s1, s2⟩
    go_simp
    with_reducible rfl
  rotate_left
  · simp only [Act.put, setIfInBounds_toArray, set_cons_zero, set_cons_succ, i64_w, i32_w]
    rfl
  refine one_ (i := 13) (N := (some 69)) #[true, true, true, true, true, true, true, true, true, true, true, true, true, true, true, true, false, false] rfl rfl (one_of HT_.out (by kernel_rfl)) (by decide) (fun K hK => ?_)
  refine call_ (f := 32) #[.agg c.cells, .int .i64 d] (by rfl) rfl (by go_simp <;> rfl) ?_
  refine (CId.out w5).mono ?_
  rintro e w6 ⟨rfl, hb⟩
  refine ⟨_, rfl, ?_⟩
  have H6 := Aside0.mk (H5.out.step hb)
  have HT6 := Aside0.mk (blk_below HT7.out hb)
  clear hb
  refine hK.out _ _ (cells3 H6.out HT6.out) (fun hHeld => ?_)
  clear hK K
  refine norm_ (a' := ?_) ?_ ?_
  rotate_left
  · show Act.put _ (some 69) _ = _
    simp only [Act.put, setIfInBounds_toArray, set_cons_zero, set_cons_succ, i64_w, i32_w]
    rfl
  refine pure_ (i := 16) (N := (some 72)) (v := ?_) (a' := ?_) #[true, true, true, true, true, true, true, true, true, true, true, true, true, true, true, true, true, false] rfl rfl (any_of HT_.out (by kernel_rfl)) (fun _ _ _ h => h) (Or.inl ⟨by rfl, ?_⟩) ?_ ?_
  rotate_left
  · intro w'
    go_simp
    with_reducible rfl
  rotate_left
  · simp only [Act.put, setIfInBounds_toArray, set_cons_zero, set_cons_succ, i64_w, i32_w]
    rfl
  refine pure_ (i := 17) (N := (some 73)) (v := ?_) (a' := ?_) #[true, true, true, true, true, true, true, true, true, true, true, true, true, true, true, true, true, true] rfl rfl (any_of HT_.out (by kernel_rfl)) (fun _ _ _ h => h) (Or.inl ⟨by rfl, ?_⟩) ?_ ?_
  rotate_left
  · intro w'
    go_simp
    with_reducible rfl
  rotate_left
  · simp only [Act.put, setIfInBounds_toArray, set_cons_zero, set_cons_succ, i64_w, i32_w]
    rfl
  refine done_ (done_of HT_.out (by kernel_rfl)) ?_
  have H7 := H6
  have HT8 := HT6
  clear hHeld hl1 hl2 hl3 hcb hce
  have hl1 := blk_lt H7.out.b
  have hl2 := blk_lt H7.out.e
  have hl3 := blk_lt H7.out.r
  have hcb := fun i => blk_cell H7.out.b i
  have hce := fun i => blk_cell H7.out.e i
  have hlt := blk_lt HT8.out
  have hct := fun i => blk_cell HT8.out i
  by_cases h3 : idleI c d ≤ t
  · have q2 : decide (idleI c d ≤ t) = true := decide_eq_true h3
    go_wp2_with (first | (go_at_call 69; (with_reducible refine (CSt.out _ H7.out.below).mono ?_); rintro e w8 ⟨A9, cap9, rfl, hR9, hb⟩; have H4 := Aside0.mk (H7.out.step hb); have HC9 := Aside0.mk (Kd.R_lower hR9 H7.out.below.size); clear hl1 hl2 hl3 hcb hce hlt hct; have hl1 := blk_lt H4.out.b; have hl2 := blk_lt H4.out.e; have hl3 := blk_lt H4.out.r; clear hb hR9) | ((with_reducible refine gate_store (t := 66) (p := 6) rfl ?_); refine wpList_store_row rfl 66 _ _ rfl (w.heap.size + 1 + 1) (rbA c clk (.slice A9 L.length cap9)) rfl rfl 66 _ H4.out.r (by kernel_rfl) (by kernel_rfl) (by kernel_rfl) ?_; have HP := Aside0.mk (H4.out.put (rbA c clk (.slice A9 L.length cap9))); have HC9P := Aside0.mk (R_row (cs' := (rbA c clk (.slice A9 L.length cap9))) HC9.out H4.out.r)))
    have hr9 := HP.out.r
    refine bodyPost_ret (v := .tuple #[.agg (rbA c clk (.slice A9 L.length cap9)), .int .i64 0]) ?_ rfl ⟨A9, cap9, ?_, ?_, ?_, HP.out.below⟩
    · have hrow := run_loadVar_row (P := Try.prog) _ (w.heap.size + 1 + 1) 66 66 _ (0, 0) _ hr9 hu1 rfl bk_desc
      simp [results, Try.results41, asAddr, hrow]
    · rw [List.length_set]
    · rw [List.length_set]; exact (R_out HC9P.out).2.1
    · exact .inr (by rw [List.length_set]; exact Kd.R_mono HC9P.out (fun _ _ => trivial))
  · have q2 : decide (idleI c d ≤ t) = false := decide_eq_false h3
    go_wp2_with (first | ((with_reducible refine gate_store (t := 66) (p := 6) rfl ?_); refine wpList_store_row rfl 66 _ _ rfl (w.heap.size + 1 + 1) (rbA c clk (.slice A L.length cap)) rfl rfl 66 _ H7.out.r (by kernel_rfl) (by kernel_rfl) (by kernel_rfl) ?_; have HP := Aside0.mk (H7.out.put (rbA c clk (.slice A L.length cap)))))
    have hr9 := HP.out.r
    refine bodyPost_ret (v := .tuple #[.agg (rbA c clk (.slice A L.length cap)), .int .i64 (6)]) ?_ rfl ⟨A, cap, ?_, HC.out, ?_, HP.out.below⟩
    · have hrow := run_loadVar_row (P := Try.prog) _ (w.heap.size + 1 + 1) 66 66 _ (0, 0) _ hr9 hu1 rfl bk_desc
      simp [results, Try.results41, asAddr, hrow]
    · rfl
    · exact .inl ⟨rfl, rfl, rfl⟩

theorem rdo_seven {c : Cf} {F : SM} {L : List S71} (h : Tie c F L) (hl : L.length ≤ 1000000) (A : Option Addr) (cap : Nat) (hc : L.length ≤ cap) (clk k wk op cn t dr er draw a b d : Int) (hF : F.at_ cn = (a, b, d)) (v : Bool) (hv : lrB k wk op cn t dr er = v) (v1 : v = true) (h1 : k = 4) (h2 : ¬ t > clk) (h4 : op = 7) (h5 : a ≠ 1) (w : World) (hr : Kd.C k71 w A L.length L) :
    Calls Try.prog 41 #[.agg (rbA c clk (.slice A L.length cap)), .agg (evA k wk op cn t dr er), .int .i64 draw] w (PtPost c (clk) A cap L (L) (6) w) := by
  have hu1 := Try.underlying66
  have hu2 := Try.underlying71
  have hu3 := Try.underlying54
  have hu4 := Try.underlying33
  have CRt := right_c k wk op cn t dr er hv
  subst v1
  have k2 : (k == 2) = false := beq_eq_false_iff_ne.2 (by omega)
  have k5 : (k == 5) = false := beq_eq_false_iff_ne.2 (by omega)
  have k3 : (k == 3) = false := beq_eq_false_iff_ne.2 (by omega)
  have k1 : (k == 1) = false := beq_eq_false_iff_ne.2 (by omega)
  have CAt := Aside0.mk (fun W hb => at_calls h A cap hc clk cn a b d hF w hr W hb)
  have q1 : decide (t > clk) = false := decide_eq_false h2
  have o7 : (op == 7) = true := beq_iff_eq.2 (by omega)
  have a1 : (a == 1) = false := beq_eq_false_iff_ne.2 (by omega)
  have o8 : (op == 8) = false := beq_eq_false_iff_ne.2 (by omega)
  have HR := Aside0.mk hr
  have HC := Aside0.mk hc
  have HS := Aside0.mk (H3.start w c clk (.slice A L.length cap) (evA k wk op cn t dr er))
  clear h hr hF hc hl hv h1 h2 h4 h5
  go_enter Try.func41, Try.ntmps41
  go_wp2_with (first | (go_at_call 67; (with_reducible refine (CRt.out _).mono ?_); rintro e w1 ⟨rfl, hb⟩; have H1 := Aside0.mk (HS.out.step hb); have hl1 := blk_lt H1.out.b; have hl2 := blk_lt H1.out.e; have hl3 := blk_lt H1.out.r; have hcb := fun i => blk_cell H1.out.b i; have hce := fun i => blk_cell H1.out.e i; have hfb := fun i => blk_frozen H1.out.b i; clear hb) | (go_at_call 43; (with_reducible refine (CAt.out _ H1.out.below).mono ?_); rintro e w2 ⟨rfl, hb⟩; have H2 := Aside0.mk (H1.out.step hb); clear hl1 hl2 hl3 hcb hce; have hl1 := blk_lt H2.out.b; have hl2 := blk_lt H2.out.e; have hl3 := blk_lt H2.out.r; have hcb := fun i => blk_cell H2.out.b i; have hce := fun i => blk_cell H2.out.e i; clear hb))
  have HS5 := Aside0.mk (H2.out.alloc (.cells #[.int .i64 a, .int .i64 b, .int .i64 d] 71)).drew
  have HT5 : Aside0 ((w2.alloc (.cells #[.int .i64 a, .int .i64 b, .int .i64 d] 71)).drew.heap[w2.heap.size]? = some (.cells #[.int .i64 a, .int .i64 b, .int .i64 d] 71 (0, 0))) := ⟨(blk_new w2 _ : _)⟩
  refine start_ (n := 18) (S := (fun w' => (∀ i, w'.cell? ⟨w.heap.size, i, none⟩ = ((rbA c clk (.slice A L.length cap)))[i]?) ∧ (∀ i, w'.cell? ⟨w.heap.size + 1, i, none⟩ = (evA k wk op cn t dr er)[i]?) ∧ (∀ i, w'.cell? ⟨w2.heap.size, i, none⟩ = (#[.int .i64 a, .int .i64 b, .int .i64 d] : Array Value)[i]?))) (ds := []) #[false, false, false, false, false, false, false, false, false, false, false, false, false, false, false, false, false, false] (by kernel_rfl) rfl rfl (cells3 HS5.out HT5.out) (fun hHeld => ?_)
  refine with_tabW rdoR.tab13 rdoR.bits13 (fun HT_ HW_ => ?_)
  have H5 := Aside0.mk (H2.out.alloc (.cells #[.int .i64 a, .int .i64 b, .int .i64 d] 71)).drew
  have HT7 : Aside0 ((w2.alloc (.cells #[.int .i64 a, .int .i64 b, .int .i64 d] 71)).drew.heap[w2.heap.size]? = some (.cells #[.int .i64 a, .int .i64 b, .int .i64 d] 71 (0, 0))) := ⟨(blk_new w2 _ : _)⟩
  generalize (w2.alloc (.cells #[.int .i64 a, .int .i64 b, .int .i64 d] 71)).drew = w5 at H5 HT7 hHeld ⊢
  refine pure_ (i := 0) (N := (some 56)) (v := ?_) (a' := ?_) #[true, false, false, false, false, false, false, false, false, false, false, false, false, false, false, false, false, false] rfl rfl (any_of HT_.out (by kernel_rfl)) (fun _ _ _ h => h) (Or.inl ⟨by rfl, ?_⟩) ?_ ?_
  rotate_left
  · intro w'
    go_simp
    with_reducible rfl
  rotate_left
  · simp only [Act.put, setIfInBounds_toArray, set_cons_zero, set_cons_succ, i64_w, i32_w]
    rfl
  refine take_ (i := 1) (N := (some 57)) (v := ?_) (a' := ?_) #[true, true, false, false, false, false, false, false, false, false, false, false, false, false, false, false, false, false] rfl rfl (take_ofW HT_.out HW_.out (by kernel_rfl)) (fun _ _ _ h => h) (Or.inl ⟨by rfl, ?_⟩) hHeld ?_ ?_
  rotate_left
  · rintro w' ⟨s0, s1, s2⟩
    go_simp
    with_reducible rfl
  rotate_left
  · simp only [Act.put, setIfInBounds_toArray, set_cons_zero, set_cons_succ, i64_w, i32_w]
    rfl
  refine pure_ (i := 2) (N := (some 58)) (v := ?_) (a' := ?_) #[true, true, true, false, false, false, false, false, false, false, false, false, false, false, false, false, false, false] rfl rfl (any_of HT_.out (by kernel_rfl)) (fun _ _ _ h => h) (Or.inl ⟨by rfl, ?_⟩) ?_ ?_
  rotate_left
  · intro w'
    go_simp
    with_reducible rfl
  rotate_left
  · simp only [Act.put, setIfInBounds_toArray, set_cons_zero, set_cons_succ, i64_w, i32_w]
    rfl
  refine pure_ (i := 3) (N := (some 59)) (v := ?_) (a' := ?_) #[true, true, true, true, false, false, false, false, false, false, false, false, false, false, false, false, false, false] rfl rfl (any_of HT_.out (by kernel_rfl)) (fun _ _ _ h => h) (Or.inl ⟨by rfl, ?_⟩) ?_ ?_
  rotate_left
  · intro w'
    go_simp
    with_reducible rfl
  rotate_left
  · simp only [Act.put, setIfInBounds_toArray, set_cons_zero, set_cons_succ, i64_w, i32_w]
    rfl
  refine pure_ (i := 4) (N := (some 60)) (v := ?_) (a' := ?_) #[true, true, true, true, true, false, false, false, false, false, false, false, false, false, false, false, false, false] rfl rfl (any_of HT_.out (by kernel_rfl)) (fun _ _ _ h => h) (Or.inl ⟨by rfl, ?_⟩) ?_ ?_
  rotate_left
  · intro w'
    go_simp
    with_reducible rfl
  rotate_left
  · simp only [Act.put, setIfInBounds_toArray, set_cons_zero, set_cons_succ, i64_w, i32_w]
    rfl
  refine take_ (i := 5) (N := (some 61)) (v := ?_) (a' := ?_) #[true, true, true, true, true, true, false, false, false, false, false, false, false, false, false, false, false, false] rfl rfl (take_ofW HT_.out HW_.out (by kernel_rfl)) (fun _ _ _ h => h) (Or.inl ⟨by rfl, ?_⟩) hHeld ?_ ?_
  rotate_left
  · rintro w' ⟨s0, s1, s2⟩
    go_simp
    with_reducible rfl
  rotate_left
  · simp only [Act.put, setIfInBounds_toArray, set_cons_zero, set_cons_succ, i64_w, i32_w]
    rfl
  refine pure_ (i := 6) (N := (some 62)) (v := ?_) (a' := ?_) #[true, true, true, true, true, true, true, false, false, false, false, false, false, false, false, false, false, false] rfl rfl (any_of HT_.out (by kernel_rfl)) (fun _ _ _ h => h) (Or.inl ⟨by rfl, ?_⟩) ?_ ?_
  rotate_left
  · intro w'
    go_simp
    with_reducible rfl
  rotate_left
  · simp only [Act.put, setIfInBounds_toArray, set_cons_zero, set_cons_succ, i64_w, i32_w]
    rfl
  refine pure_ (i := 7) (N := (some 63)) (v := ?_) (a' := ?_) #[true, true, true, true, true, true, true, true, false, false, false, false, false, false, false, false, false, false] rfl rfl (any_of HT_.out (by kernel_rfl)) (fun _ _ _ h => h) (Or.inl ⟨by rfl, ?_⟩) ?_ ?_
  rotate_left
  · intro w'
    go_simp
    with_reducible rfl
  rotate_left
  · simp only [Act.put, setIfInBounds_toArray, set_cons_zero, set_cons_succ, i64_w, i32_w]
    rfl
  refine pure_ (i := 8) (N := (some 64)) (v := ?_) (a' := ?_) #[true, true, true, true, true, true, true, true, true, false, false, false, false, false, false, false, false, false] rfl rfl (any_of HT_.out (by kernel_rfl)) (fun _ _ _ h => h) (Or.inl ⟨by rfl, ?_⟩) ?_ ?_
  rotate_left
  · intro w'
    go_simp
    with_reducible rfl
  rotate_left
  · simp only [Act.put, setIfInBounds_toArray, set_cons_zero, set_cons_succ, i64_w, i32_w]
    rfl
  refine pure_ (i := 9) (N := (some 65)) (v := undef) (a' := ?_) #[true, true, true, true, true, true, true, true, true, true, false, false, false, false, false, false, false, false] rfl rfl (any_of HT_.out (by kernel_rfl)) (fun _ _ _ h => h) (Or.inr ⟨by rfl, rfl⟩) ?_ ?_
  rotate_left
  · simp only [Act.put, setIfInBounds_toArray, set_cons_zero, set_cons_succ, i64_w, i32_w]
    rfl
  refine pure_ (i := 10) (N := (some 66)) (v := undef) (a' := ?_) #[true, true, true, true, true, true, true, true, true, true, true, false, false, false, false, false, false, false] rfl rfl (any_of HT_.out (by kernel_rfl)) (fun _ _ _ h => h) (Or.inr ⟨by rfl, rfl⟩) ?_ ?_
  rotate_left
  · simp only [Act.put, setIfInBounds_toArray, set_cons_zero, set_cons_succ, i64_w, i32_w]
    rfl
  refine pure_ (i := 11) (N := (some 67)) (v := undef) (a' := ?_) #[true, true, true, true, true, true, true, true, true, true, true, true, false, false, false, false, false, false] rfl rfl (any_of HT_.out (by kernel_rfl)) (fun _ _ _ h => h) (Or.inr ⟨by rfl, rfl⟩) ?_ ?_
  rotate_left
  · simp only [Act.put, setIfInBounds_toArray, set_cons_zero, set_cons_succ, i64_w, i32_w]
    rfl
  refine pure_ (i := 12) (N := (some 68)) (v := undef) (a' := ?_) #[true, true, true, true, true, true, true, true, true, true, true, true, true, false, false, false, false, false] rfl rfl (any_of HT_.out (by kernel_rfl)) (fun _ _ _ h => h) (Or.inr ⟨by rfl, rfl⟩) ?_ ?_
  rotate_left
  · simp only [Act.put, setIfInBounds_toArray, set_cons_zero, set_cons_succ, i64_w, i32_w]
    rfl
  refine pure_ (i := 13) (N := (some 69)) (v := undef) (a' := ?_) #[true, true, true, true, true, true, true, true, true, true, true, true, true, true, false, false, false, false] rfl rfl (any_of HT_.out (by kernel_rfl)) (fun _ _ _ h => h) (Or.inr ⟨by rfl, rfl⟩) ?_ ?_
  rotate_left
  · simp only [Act.put, setIfInBounds_toArray, set_cons_zero, set_cons_succ, i64_w, i32_w]
    rfl
  refine pure_ (i := 14) (N := (some 70)) (v := undef) (a' := ?_) #[true, true, true, true, true, true, true, true, true, true, true, true, true, true, true, false, false, false] rfl rfl (any_of HT_.out (by kernel_rfl)) (fun _ _ _ h => h) (Or.inr ⟨by rfl, rfl⟩) ?_ ?_
  rotate_left
  · simp only [Act.put, setIfInBounds_toArray, set_cons_zero, set_cons_succ, i64_w, i32_w]
    rfl
  refine pure_ (i := 15) (N := (some 71)) (v := undef) (a' := ?_) #[true, true, true, true, true, true, true, true, true, true, true, true, true, true, true, true, false, false] rfl rfl (any_of HT_.out (by kernel_rfl)) (fun _ _ _ h => h) (Or.inr ⟨by rfl, rfl⟩) ?_ ?_
  rotate_left
  · simp only [Act.put, setIfInBounds_toArray, set_cons_zero, set_cons_succ, i64_w, i32_w]
    rfl
  refine pure_ (i := 16) (N := (some 72)) (v := undef) (a' := ?_) #[true, true, true, true, true, true, true, true, true, true, true, true, true, true, true, true, true, false] rfl rfl (any_of HT_.out (by kernel_rfl)) (fun _ _ _ h => h) (Or.inr ⟨by rfl, rfl⟩) ?_ ?_
  rotate_left
  · simp only [Act.put, setIfInBounds_toArray, set_cons_zero, set_cons_succ, i64_w, i32_w]
    rfl
  refine pure_ (i := 17) (N := (some 73)) (v := ?_) (a' := ?_) #[true, true, true, true, true, true, true, true, true, true, true, true, true, true, true, true, true, true] rfl rfl (any_of HT_.out (by kernel_rfl)) (fun _ _ _ h => h) (Or.inl ⟨by rfl, ?_⟩) ?_ ?_
  rotate_left
  · intro w'
    go_simp
    with_reducible rfl
  rotate_left
  · simp only [Act.put, setIfInBounds_toArray, set_cons_zero, set_cons_succ, i64_w, i32_w]
    rfl
  refine done_ (done_of HT_.out (by kernel_rfl)) ?_
  have H7 := H5
  have HT8 := HT7
  clear hHeld hl1 hl2 hl3 hcb hce
  have hl1 := blk_lt H7.out.b
  have hl2 := blk_lt H7.out.e
  have hl3 := blk_lt H7.out.r
  have hcb := fun i => blk_cell H7.out.b i
  have hce := fun i => blk_cell H7.out.e i
  have hlt := blk_lt HT8.out
  have hct := fun i => blk_cell HT8.out i
  go_wp2_with (first | ((with_reducible refine gate_store (t := 66) (p := 6) rfl ?_); refine wpList_store_row rfl 66 _ _ rfl (w.heap.size + 1 + 1) (rbA c clk (.slice A L.length cap)) rfl rfl 66 _ H7.out.r (by kernel_rfl) (by kernel_rfl) (by kernel_rfl) ?_; have HP := Aside0.mk (H7.out.put (rbA c clk (.slice A L.length cap)))))
  have hr9 := HP.out.r
  refine bodyPost_ret (v := .tuple #[.agg (rbA c clk (.slice A L.length cap)), .int .i64 (6)]) ?_ rfl ⟨A, cap, ?_, HC.out, ?_, HP.out.below⟩
  · have hrow := run_loadVar_row (P := Try.prog) _ (w.heap.size + 1 + 1) 66 66 _ (0, 0) _ hr9 hu1 rfl bk_desc
    simp [results, Try.results41, asAddr, hrow]
  · rfl
  · exact .inl ⟨rfl, rfl, rfl⟩

theorem rdo_eight {c : Cf} {F : SM} {L : List S71} (h : Tie c F L) (hl : L.length ≤ 1000000) (A : Option Addr) (cap : Nat) (hc : L.length ≤ cap) (clk k wk op cn t dr er draw a b d : Int) (hF : F.at_ cn = (a, b, d)) (v : Bool) (hv : lrB k wk op cn t dr er = v) (v1 : v = true) (h1 : k = 4) (h2 : ¬ t > clk) (h4 : op ≠ 7) (hin : a ≠ 0 → 0 ≤ cn ∧ cn < (L.length : Int)) (w : World) (hr : Kd.C k71 w A L.length L) :
    Calls Try.prog 41 #[.agg (rbA c clk (.slice A L.length cap)), .agg (evA k wk op cn t dr er), .int .i64 draw] w (if op = 8 ∧ a = 2 ∧ d ≤ t then PtPost c clk A cap L (L.set cn.toNat ⟨3, b, t⟩) 0 w else PtPost c clk A cap L L 6 w) := by
  have hu1 := Try.underlying66
  have hu2 := Try.underlying71
  have hu3 := Try.underlying54
  have hu4 := Try.underlying33
  have CRt := right_c k wk op cn t dr er hv
  subst v1
  have k2 : (k == 2) = false := beq_eq_false_iff_ne.2 (by omega)
  have k5 : (k == 5) = false := beq_eq_false_iff_ne.2 (by omega)
  have k3 : (k == 3) = false := beq_eq_false_iff_ne.2 (by omega)
  have k1 : (k == 1) = false := beq_eq_false_iff_ne.2 (by omega)
  have CAt := Aside0.mk (fun W hb => at_calls h A cap hc clk cn a b d hF w hr W hb)
  have q1 : decide (t > clk) = false := decide_eq_false h2
  have o7 : (op == 7) = false := beq_eq_false_iff_ne.2 (by omega)
  have HIN := Aside0.mk hin
  have CSt0 := Aside0.mk (fun (hi : 0 ≤ cn ∧ cn < (L.length : Int)) W hb => rset_calls hl c clk A cap hc cn 3 b t hi.1 hi.2 w hr W hb)
  have HR := Aside0.mk hr
  have HC := Aside0.mk hc
  have HS := Aside0.mk (H3.start w c clk (.slice A L.length cap) (evA k wk op cn t dr er))
  clear h hr hF hc hl hv h1 h2 h4 hin
  go_enter Try.func41, Try.ntmps41
  go_wp2_with (first | (go_at_call 67; (with_reducible refine (CRt.out _).mono ?_); rintro e w1 ⟨rfl, hb⟩; have H1 := Aside0.mk (HS.out.step hb); have hl1 := blk_lt H1.out.b; have hl2 := blk_lt H1.out.e; have hl3 := blk_lt H1.out.r; have hcb := fun i => blk_cell H1.out.b i; have hce := fun i => blk_cell H1.out.e i; have hfb := fun i => blk_frozen H1.out.b i; clear hb) | (go_at_call 43; (with_reducible refine (CAt.out _ H1.out.below).mono ?_); rintro e w2 ⟨rfl, hb⟩; have H2 := Aside0.mk (H1.out.step hb); clear hl1 hl2 hl3 hcb hce; have hl1 := blk_lt H2.out.b; have hl2 := blk_lt H2.out.e; have hl3 := blk_lt H2.out.r; have hcb := fun i => blk_cell H2.out.b i; have hce := fun i => blk_cell H2.out.e i; clear hb))
  have HS5 := Aside0.mk (H2.out.alloc (.cells #[.int .i64 a, .int .i64 b, .int .i64 d] 71)).drew
  have HT5 : Aside0 ((w2.alloc (.cells #[.int .i64 a, .int .i64 b, .int .i64 d] 71)).drew.heap[w2.heap.size]? = some (.cells #[.int .i64 a, .int .i64 b, .int .i64 d] 71 (0, 0))) := ⟨(blk_new w2 _ : _)⟩
  refine start_ (n := 18) (S := (fun w' => (∀ i, w'.cell? ⟨w.heap.size, i, none⟩ = ((rbA c clk (.slice A L.length cap)))[i]?) ∧ (∀ i, w'.cell? ⟨w.heap.size + 1, i, none⟩ = (evA k wk op cn t dr er)[i]?) ∧ (∀ i, w'.cell? ⟨w2.heap.size, i, none⟩ = (#[.int .i64 a, .int .i64 b, .int .i64 d] : Array Value)[i]?))) (ds := []) #[false, false, false, false, false, false, false, false, false, false, false, false, false, false, false, false, false, false] (by kernel_rfl) rfl rfl (cells3 HS5.out HT5.out) (fun hHeld => ?_)
  refine with_tabW rdoR.tab13 rdoR.bits13 (fun HT_ HW_ => ?_)
  have H5 := Aside0.mk (H2.out.alloc (.cells #[.int .i64 a, .int .i64 b, .int .i64 d] 71)).drew
  have HT7 : Aside0 ((w2.alloc (.cells #[.int .i64 a, .int .i64 b, .int .i64 d] 71)).drew.heap[w2.heap.size]? = some (.cells #[.int .i64 a, .int .i64 b, .int .i64 d] 71 (0, 0))) := ⟨(blk_new w2 _ : _)⟩
  generalize (w2.alloc (.cells #[.int .i64 a, .int .i64 b, .int .i64 d] 71)).drew = w5 at H5 HT7 hHeld ⊢
  refine pure_ (i := 0) (N := (some 56)) (v := ?_) (a' := ?_) #[true, false, false, false, false, false, false, false, false, false, false, false, false, false, false, false, false, false] rfl rfl (any_of HT_.out (by kernel_rfl)) (fun _ _ _ h => h) (Or.inl ⟨by rfl, ?_⟩) ?_ ?_
  rotate_left
  · intro w'
    go_simp
    with_reducible rfl
  rotate_left
  · simp only [Act.put, setIfInBounds_toArray, set_cons_zero, set_cons_succ, i64_w, i32_w]
    rfl
  refine take_ (i := 1) (N := (some 57)) (v := ?_) (a' := ?_) #[true, true, false, false, false, false, false, false, false, false, false, false, false, false, false, false, false, false] rfl rfl (take_ofW HT_.out HW_.out (by kernel_rfl)) (fun _ _ _ h => h) (Or.inl ⟨by rfl, ?_⟩) hHeld ?_ ?_
  rotate_left
  · rintro w' ⟨s0, s1, s2⟩
    go_simp
    with_reducible rfl
  rotate_left
  · simp only [Act.put, setIfInBounds_toArray, set_cons_zero, set_cons_succ, i64_w, i32_w]
    rfl
  refine pure_ (i := 2) (N := (some 58)) (v := ?_) (a' := ?_) #[true, true, true, false, false, false, false, false, false, false, false, false, false, false, false, false, false, false] rfl rfl (any_of HT_.out (by kernel_rfl)) (fun _ _ _ h => h) (Or.inl ⟨by rfl, ?_⟩) ?_ ?_
  rotate_left
  · intro w'
    go_simp
    with_reducible rfl
  rotate_left
  · simp only [Act.put, setIfInBounds_toArray, set_cons_zero, set_cons_succ, i64_w, i32_w]
    rfl
  refine pure_ (i := 3) (N := (some 59)) (v := ?_) (a' := ?_) #[true, true, true, true, false, false, false, false, false, false, false, false, false, false, false, false, false, false] rfl rfl (any_of HT_.out (by kernel_rfl)) (fun _ _ _ h => h) (Or.inl ⟨by rfl, ?_⟩) ?_ ?_
  rotate_left
  · intro w'
    go_simp
    with_reducible rfl
  rotate_left
  · simp only [Act.put, setIfInBounds_toArray, set_cons_zero, set_cons_succ, i64_w, i32_w]
    rfl
  refine pure_ (i := 4) (N := (some 60)) (v := undef) (a' := ?_) #[true, true, true, true, true, false, false, false, false, false, false, false, false, false, false, false, false, false] rfl rfl (any_of HT_.out (by kernel_rfl)) (fun _ _ _ h => h) (Or.inr ⟨by rfl, rfl⟩) ?_ ?_
  rotate_left
  · simp only [Act.put, setIfInBounds_toArray, set_cons_zero, set_cons_succ, i64_w, i32_w]
    rfl
  refine pure_ (i := 5) (N := (some 61)) (v := undef) (a' := ?_) #[true, true, true, true, true, true, false, false, false, false, false, false, false, false, false, false, false, false] rfl rfl (any_of HT_.out (by kernel_rfl)) (fun _ _ _ h => h) (Or.inr ⟨by rfl, rfl⟩) ?_ ?_
  rotate_left
  · simp only [Act.put, setIfInBounds_toArray, set_cons_zero, set_cons_succ, i64_w, i32_w]
    rfl
  refine pure_ (i := 6) (N := (some 62)) (v := undef) (a' := ?_) #[true, true, true, true, true, true, true, false, false, false, false, false, false, false, false, false, false, false] rfl rfl (any_of HT_.out (by kernel_rfl)) (fun _ _ _ h => h) (Or.inr ⟨by rfl, rfl⟩) ?_ ?_
  rotate_left
  · simp only [Act.put, setIfInBounds_toArray, set_cons_zero, set_cons_succ, i64_w, i32_w]
    rfl
  refine pure_ (i := 7) (N := (some 63)) (v := ?_) (a' := ?_) #[true, true, true, true, true, true, true, true, false, false, false, false, false, false, false, false, false, false] rfl rfl (any_of HT_.out (by kernel_rfl)) (fun _ _ _ h => h) (Or.inl ⟨by rfl, ?_⟩) ?_ ?_
  rotate_left
  · intro w'
    go_simp
    with_reducible rfl
  rotate_left
  · simp only [Act.put, setIfInBounds_toArray, set_cons_zero, set_cons_succ, i64_w, i32_w]
    rfl
  refine pure_ (i := 8) (N := (some 64)) (v := ?_) (a' := ?_) #[true, true, true, true, true, true, true, true, true, false, false, false, false, false, false, false, false, false] rfl rfl (any_of HT_.out (by kernel_rfl)) (fun _ _ _ h => h) (Or.inl ⟨by rfl, ?_⟩) ?_ ?_
  rotate_left
  · intro w'
    go_simp
    with_reducible rfl
  rotate_left
  · simp only [Act.put, setIfInBounds_toArray, set_cons_zero, set_cons_succ, i64_w, i32_w]
    rfl
  refine pure_ (i := 9) (N := (some 65)) (v := undef) (a' := ?_) #[true, true, true, true, true, true, true, true, true, true, false, false, false, false, false, false, false, false] rfl rfl (any_of HT_.out (by kernel_rfl)) (fun _ _ _ h => h) (Or.inr ⟨by rfl, rfl⟩) ?_ ?_
  rotate_left
  · simp only [Act.put, setIfInBounds_toArray, set_cons_zero, set_cons_succ, i64_w, i32_w]
    rfl
  refine pure_ (i := 10) (N := (some 66)) (v := undef) (a' := ?_) #[true, true, true, true, true, true, true, true, true, true, true, false, false, false, false, false, false, false] rfl rfl (any_of HT_.out (by kernel_rfl)) (fun _ _ _ h => h) (Or.inr ⟨by rfl, rfl⟩) ?_ ?_
  rotate_left
  · simp only [Act.put, setIfInBounds_toArray, set_cons_zero, set_cons_succ, i64_w, i32_w]
    rfl
  refine pure_ (i := 11) (N := (some 67)) (v := undef) (a' := ?_) #[true, true, true, true, true, true, true, true, true, true, true, true, false, false, false, false, false, false] rfl rfl (any_of HT_.out (by kernel_rfl)) (fun _ _ _ h => h) (Or.inr ⟨by rfl, rfl⟩) ?_ ?_
  rotate_left
  · simp only [Act.put, setIfInBounds_toArray, set_cons_zero, set_cons_succ, i64_w, i32_w]
    rfl
  refine pure_ (i := 12) (N := (some 68)) (v := undef) (a' := ?_) #[true, true, true, true, true, true, true, true, true, true, true, true, true, false, false, false, false, false] rfl rfl (any_of HT_.out (by kernel_rfl)) (fun _ _ _ h => h) (Or.inr ⟨by rfl, rfl⟩) ?_ ?_
  rotate_left
  · simp only [Act.put, setIfInBounds_toArray, set_cons_zero, set_cons_succ, i64_w, i32_w]
    rfl
  refine pure_ (i := 13) (N := (some 69)) (v := undef) (a' := ?_) #[true, true, true, true, true, true, true, true, true, true, true, true, true, true, false, false, false, false] rfl rfl (any_of HT_.out (by kernel_rfl)) (fun _ _ _ h => h) (Or.inr ⟨by rfl, rfl⟩) ?_ ?_
  rotate_left
  · simp only [Act.put, setIfInBounds_toArray, set_cons_zero, set_cons_succ, i64_w, i32_w]
    rfl
  refine pure_ (i := 14) (N := (some 70)) (v := undef) (a' := ?_) #[true, true, true, true, true, true, true, true, true, true, true, true, true, true, true, false, false, false] rfl rfl (any_of HT_.out (by kernel_rfl)) (fun _ _ _ h => h) (Or.inr ⟨by rfl, rfl⟩) ?_ ?_
  rotate_left
  · simp only [Act.put, setIfInBounds_toArray, set_cons_zero, set_cons_succ, i64_w, i32_w]
    rfl
  refine pure_ (i := 15) (N := (some 71)) (v := undef) (a' := ?_) #[true, true, true, true, true, true, true, true, true, true, true, true, true, true, true, true, false, false] rfl rfl (any_of HT_.out (by kernel_rfl)) (fun _ _ _ h => h) (Or.inr ⟨by rfl, rfl⟩) ?_ ?_
  rotate_left
  · simp only [Act.put, setIfInBounds_toArray, set_cons_zero, set_cons_succ, i64_w, i32_w]
    rfl
  refine pure_ (i := 16) (N := (some 72)) (v := undef) (a' := ?_) #[true, true, true, true, true, true, true, true, true, true, true, true, true, true, true, true, true, false] rfl rfl (any_of HT_.out (by kernel_rfl)) (fun _ _ _ h => h) (Or.inr ⟨by rfl, rfl⟩) ?_ ?_
  rotate_left
  · simp only [Act.put, setIfInBounds_toArray, set_cons_zero, set_cons_succ, i64_w, i32_w]
    rfl
  refine pure_ (i := 17) (N := (some 73)) (v := ?_) (a' := ?_) #[true, true, true, true, true, true, true, true, true, true, true, true, true, true, true, true, true, true] rfl rfl (any_of HT_.out (by kernel_rfl)) (fun _ _ _ h => h) (Or.inl ⟨by rfl, ?_⟩) ?_ ?_
  rotate_left
  · intro w'
    go_simp
    with_reducible rfl
  rotate_left
  · simp only [Act.put, setIfInBounds_toArray, set_cons_zero, set_cons_succ, i64_w, i32_w]
    rfl
  refine done_ (done_of HT_.out (by kernel_rfl)) ?_
  have H7 := H5
  have HT8 := HT7
  clear hHeld hl1 hl2 hl3 hcb hce
  have hl1 := blk_lt H7.out.b
  have hl2 := blk_lt H7.out.e
  have hl3 := blk_lt H7.out.r
  have hcb := fun i => blk_cell H7.out.b i
  have hce := fun i => blk_cell H7.out.e i
  have hlt := blk_lt HT8.out
  have hct := fun i => blk_cell HT8.out i
  by_cases hq : op = 8
  · have o8 : (op == 8) = true := beq_iff_eq.2 hq
    by_cases h5 : a = 2
    · have a2 : (a == 2) = true := beq_iff_eq.2 h5
      by_cases h3 : d ≤ t
      · have CSt := Aside0.mk (CSt0.out (HIN.out (by omega)))
        have q2 : decide (d ≤ t) = true := decide_eq_true h3
        go_wp2_with (first | (go_at_call 69; (with_reducible refine (CSt.out _ H7.out.below).mono ?_); rintro e w8 ⟨A9, cap9, rfl, hR9, hb⟩; have H4 := Aside0.mk (H7.out.step hb); have HC9 := Aside0.mk (Kd.R_lower hR9 H7.out.below.size); clear hl1 hl2 hl3 hcb hce hlt hct; have hl1 := blk_lt H4.out.b; have hl2 := blk_lt H4.out.e; have hl3 := blk_lt H4.out.r; clear hb hR9) | ((with_reducible refine gate_store (t := 66) (p := 6) rfl ?_); refine wpList_store_row rfl 66 _ _ rfl (w.heap.size + 1 + 1) (rbA c clk (.slice A9 L.length cap9)) rfl rfl 66 _ H4.out.r (by kernel_rfl) (by kernel_rfl) (by kernel_rfl) ?_; have HP := Aside0.mk (H4.out.put (rbA c clk (.slice A9 L.length cap9))); have HC9P := Aside0.mk (R_row (cs' := (rbA c clk (.slice A9 L.length cap9))) HC9.out H4.out.r)))
        have hr9 := HP.out.r
        refine bodyPost_ret (v := .tuple #[.agg (rbA c clk (.slice A9 L.length cap9)), .int .i64 0]) ?_ rfl ⟨A9, cap9, ?_, ?_, ?_, HP.out.below⟩
        · have hrow := run_loadVar_row (P := Try.prog) _ (w.heap.size + 1 + 1) 66 66 _ (0, 0) _ hr9 hu1 rfl bk_desc
          simp [results, Try.results41, asAddr, hrow]
        · rw [List.length_set]
        · rw [List.length_set]; exact (R_out HC9P.out).2.1
        · exact .inr (by rw [List.length_set]; exact Kd.R_mono HC9P.out (fun _ _ => trivial))
      · have q2 : decide (d ≤ t) = false := decide_eq_false h3
        go_wp2_with (first | ((with_reducible refine gate_store (t := 66) (p := 6) rfl ?_); refine wpList_store_row rfl 66 _ _ rfl (w.heap.size + 1 + 1) (rbA c clk (.slice A L.length cap)) rfl rfl 66 _ H7.out.r (by kernel_rfl) (by kernel_rfl) (by kernel_rfl) ?_; have HP := Aside0.mk (H7.out.put (rbA c clk (.slice A L.length cap)))))
        have hr9 := HP.out.r
        refine bodyPost_ret (v := .tuple #[.agg (rbA c clk (.slice A L.length cap)), .int .i64 (6)]) ?_ rfl ⟨A, cap, ?_, HC.out, ?_, HP.out.below⟩
        · have hrow := run_loadVar_row (P := Try.prog) _ (w.heap.size + 1 + 1) 66 66 _ (0, 0) _ hr9 hu1 rfl bk_desc
          simp [results, Try.results41, asAddr, hrow]
        · rfl
        · exact .inl ⟨rfl, rfl, rfl⟩
    · have a2 : (a == 2) = false := beq_eq_false_iff_ne.2 h5
      go_wp2_with (first | ((with_reducible refine gate_store (t := 66) (p := 6) rfl ?_); refine wpList_store_row rfl 66 _ _ rfl (w.heap.size + 1 + 1) (rbA c clk (.slice A L.length cap)) rfl rfl 66 _ H7.out.r (by kernel_rfl) (by kernel_rfl) (by kernel_rfl) ?_; have HP := Aside0.mk (H7.out.put (rbA c clk (.slice A L.length cap)))))
      have hr9 := HP.out.r
      refine bodyPost_ret (v := .tuple #[.agg (rbA c clk (.slice A L.length cap)), .int .i64 (6)]) ?_ rfl ⟨A, cap, ?_, HC.out, ?_, HP.out.below⟩
      · have hrow := run_loadVar_row (P := Try.prog) _ (w.heap.size + 1 + 1) 66 66 _ (0, 0) _ hr9 hu1 rfl bk_desc
        simp [results, Try.results41, asAddr, hrow]
      · rfl
      · exact .inl ⟨rfl, rfl, rfl⟩
  · have o8 : (op == 8) = false := beq_eq_false_iff_ne.2 hq
    go_wp2_with (first | ((with_reducible refine gate_store (t := 66) (p := 6) rfl ?_); refine wpList_store_row rfl 66 _ _ rfl (w.heap.size + 1 + 1) (rbA c clk (.slice A L.length cap)) rfl rfl 66 _ H7.out.r (by kernel_rfl) (by kernel_rfl) (by kernel_rfl) ?_; have HP := Aside0.mk (H7.out.put (rbA c clk (.slice A L.length cap)))))
    have hr9 := HP.out.r
    refine bodyPost_ret (v := .tuple #[.agg (rbA c clk (.slice A L.length cap)), .int .i64 (6)]) ?_ rfl ⟨A, cap, ?_, HC.out, ?_, HP.out.below⟩
    · have hrow := run_loadVar_row (P := Try.prog) _ (w.heap.size + 1 + 1) 66 66 _ (0, 0) _ hr9 hu1 rfl bk_desc
      simp [results, Try.results41, asAddr, hrow]
    · rfl
    · exact .inl ⟨rfl, rfl, rfl⟩

end Go.Proofs.Ythljanmfanppdaa.Bk
