/- What is proved: audit.Twice comes to the first place that the story tells; events' numbers fit into 64 bits. -/
import Derived.Test.YthniclbmpeklmaaAuD
namespace Go.Proofs.Ythniclbmpeklmaa.Au
open Go.RowKit Go.Maps Go.Proofs.YthniclbmpeklmaaW.PrintWords Go.Proofs.YthniclbmpeklmaaW.PrintLast Go.Proofs.YthniclbmpeklmaaW.PrintMore Go.Proofs.Ythniclbmpeklmaa.Mp
set_option linter.unusedVariables false
set_option linter.unusedSimpArgs false
/-- A map of counts. -/
def cV (cnt : Ha → Nat) : Ha → Option Value := fun h => if cnt h = 0 then none else some (.int .i64 (cnt h : Nat))
theorem cV_at (cnt : Ha → Nat) (h : Ha) : (cV cnt h).getD (.int .i64 0) = .int .i64 (cnt h : Nat) := by
  unfold cV
  by_cases e : cnt h = 0
  · rw [if_pos e, e]; rfl
  · rw [if_neg e]; rfl
def inc (cnt : Ha → Nat) (h : Ha) : Ha → Nat := fun x => if x = h then cnt x + 1 else cnt x
theorem cV_inc (cnt : Ha → Nat) (h : Ha) : (fun l => if l = h then some (.int .i64 ((cnt h : Nat) + 1 : Int)) else cV cnt l) = cV (inc cnt h) := by
  funext l
  unfold cV inc
  by_cases e : l = h
  · subst e; simp
  · simp [e]
theorem lawHK : WideMaps.KeyLaw Try.prog 34 := deep_law_laid laidOut_ (m := 3) (by decide) (of_decide_eq_true (by kernel_rfl)) (by kernel_rfl) (by kernel_rfl)
theorem look_same {w : World} {mf z : Nat} {f : Ha → Option Value} {hn hg : Int} {v : Value} (h : MapIs haV Try.prog 34 w mf z f) {kl : Lit} (hk : keyOf Try.prog 34 (haV (hn, hg)) = some kl) (hv : (f (hn, hg)).getD (.int .i64 0) = v) :
    (Instr.lookup 86 (.map (some mf)) (.agg #[.int .i64 hn, .int .i64 hg]) false).run Try.prog w = .ok v w := by
  have := h.look lawH Try.underlying86 (zeroI w) (x := (hn, hg)) hk
  rw [hv] at this
  exact this
theorem look_c {w : World} {mf z : Nat} {cnt : Ha → Nat} (h : MapIs haV Try.prog 34 w mf z (cV cnt)) {hn hg : Int} {kl : Lit} (hk : keyOf Try.prog 34 (haV (hn, hg)) = some kl) (W : World) (hb : W.heap[mf]? = w.heap[mf]?) :
    (Instr.lookup 86 (.map (some mf)) (.agg #[.int .i64 hn, .int .i64 hg]) false).run Try.prog W = .ok (.int .i64 (cnt (hn, hg) : Nat)) W := look_same (h.move hb) hk (cV_at cnt (hn, hg))
theorem grown_drew {w w1 : World} {r : Option Nat} (h : w.grownBy w1 r) : w.grownBy w1.drew r := ⟨h.os, h.tape, h.output, h.size, h.block⟩
def twiceR.T1 : Bool × List (List Nat × List Nat) := (true, [([], []), ([], []), ([1], [1]), ([0, 2], [0, 2]), ([3], [3]), ([0, 2, 0, 1, 2], [0, 2]), ([5], [5]), ([0, 6, 4, 5, 0, 1, 2, 3, 4, 5, 6], [0, 4, 6])])
def twiceR.B1 : List Nat := [0, 0, 2, 7, 15, 7, 39, 127]
theorem twiceR.tab1 : rtab .any (opsOf Try.f49 1) = twiceR.T1 := by kernel_rfl
theorem twiceR.bits1 : waitsOk twiceR.T1.2 twiceR.B1 = true := by kernel_rfl
/-- The counts in memory. -/
structure Ct (W : World) (fb mf z : Nat) (cnt : Ha → Nat) : Prop where
  fb_ : W.heap[fb]? = some (.cells #[.map (some mf)] 86 (0, 0))
  mf_ : MapIs haV Try.prog 34 W mf z (cV cnt)
set_option maxHeartbeats 4000000 in
set_option maxRecDepth 100000 in
theorem twice_clo1 {fb mf z : Nat} {cnt : Ha → Nat} (i : Nat) (e : Ev) (w : World) (hC : Ct w fb mf z cnt) (hw : ∃ kl, keyOf Try.prog 34 (haV e.h) = some kl) (hz : z ≤ 1000000) (hcb : cnt e.h ≤ 1000000) :
    Calls Try.prog 49 #[.int .i64 (i : Int), .agg (evA e), .pointer (some ⟨fb, 0, none⟩)] w fun r w' => r = .returned (.bool (decide (cnt e.h + 1 > 1))) ∧ (∃ z', z' ≤ z + 1 ∧ Ct w' fb mf z' (inc cnt e.h)) ∧ w.grownBy w' (some mf) := by
  have hu54 := Try.underlying54
  have hu34 := Try.underlying34
  obtain ⟨kl, hkl⟩ := hw
  have HM1 := Aside0.mk (hC.mf_.move (w' := w.alloc (.cells (evA e) 54)) (Below.heap_alloc w _ mf hC.mf_.lt))
  have HF1 := Aside0.mk (blk_alloc hC.fb_ (.cells (evA e) 54))
  have HE1 := Aside0.mk (blk_new w (.cells (evA e) 54))
  have HZ := Aside0.mk hz
  have HCB := Aside0.mk hcb
  obtain ⟨_, _, qm⟩ := HM1.out.block
  have HNF := Aside0.mk (map_ne HF1.out qm)
  have HNE := Aside0.mk (map_ne HE1.out qm)
  have hlf := blk_lt hC.fb_
  clear hC hz hcb qm
  have hww : wrap64 ((cnt e.h : Nat) + 1) = ((cnt e.h : Nat) + 1 : Int) := by have := HCB.out; unfold wrap64; omega
  have HWW := Aside0.mk hww
  clear hww
  go_enter Try.func49, Try.ntmps49
  go_upto_region 1 with (fail)
  refine start_ (n := 8) (S := (fun w' => (∀ i, w'.cell? ⟨fb, i, none⟩ = (#[.map (some mf)] : Array Value)[i]?) ∧ (∀ i, w'.cell? ⟨w.heap.size, i, none⟩ = (evA e)[i]?) ∧ (Instr.lookup 86 (.map (some mf)) (.agg #[.int .i64 e.hn, .int .i64 e.hg]) false).run Try.prog w' = .ok (.int .i64 (cnt e.h : Nat)) w')) (ds := [7]) #[false, false, false, false, false, false, false, false] (by kernel_rfl) rfl rfl ⟨fun i => blk_cell HF1.out i, fun i => blk_cell HE1.out i, look_c HM1.out hkl _ rfl⟩ (fun hHeld => ?_)
  refine with_tabW twiceR.tab1 twiceR.bits1 (fun HT_ HW_ => ?_)
  have HM3 := Aside0.mk (HM1.out.move (w' := (w.alloc (.cells (evA e) 54)).drew) rfl)
  have HF3 := Aside0.mk (blk_drew HF1.out)
  have HE3 := Aside0.mk (blk_drew HE1.out)
  have HG3 := Aside0.mk (grown_drew (World.grownBy_alloc w (.cells (evA e) 54) (some mf)))
  generalize (w.alloc (.cells (evA e) 54)).drew = w3 at HM3 HF3 HE3 HG3 hHeld ⊢
  refine pure_ (i := 1) (N := (some 7)) (v := ?_) (a' := ?_) #[false, true, false, false, false, false, false, false] rfl rfl (any_of HT_.out (by kernel_rfl)) (fun _ _ _ h => h) (Or.inl ⟨by rfl, ?_⟩) ?_ ?_
  rotate_left
  · intro w'
    go_simp
    with_reducible rfl
  rotate_left
  · simp only [Act.put, List.setIfInBounds_toArray, List.set_cons_zero, List.set_cons_succ, i64_w, i32_w]
    rfl
  refine take_ (i := 0) (N := (some 6)) (v := ?_) (a' := ?_) #[true, true, false, false, false, false, false, false] rfl rfl (take_ofW HT_.out HW_.out (by kernel_rfl)) (fun _ _ _ h => h) (Or.inl ⟨by rfl, ?_⟩) hHeld ?_ ?_
  rotate_left
  · rintro w' ⟨s0, s1, s2⟩
    go_simp
    with_reducible rfl
  rotate_left
  · simp only [Act.put, List.setIfInBounds_toArray, List.set_cons_zero, List.set_cons_succ, i64_w, i32_w]
    rfl
  refine take_ (i := 2) (N := (some 8)) (v := ?_) (a' := ?_) #[true, true, true, false, false, false, false, false] rfl rfl (take_ofW HT_.out HW_.out (by kernel_rfl)) (fun _ _ _ h => h) (Or.inl ⟨by rfl, ?_⟩) hHeld ?_ ?_
  rotate_left
  · rintro w' ⟨s0, s1, s2⟩
    go_simp
    with_reducible rfl
  rotate_left
  · simp only [Act.put, List.setIfInBounds_toArray, List.set_cons_zero, List.set_cons_succ, i64_w, i32_w]
    rfl
  refine take_ (i := 3) (N := (some 9)) (v := ?_) (a' := ?_) #[true, true, true, true, false, false, false, false] rfl rfl (take_ofW HT_.out HW_.out (by kernel_rfl)) (fun _ _ _ h => h) (Or.inl ⟨by rfl, ?_⟩) hHeld ?_ ?_
  rotate_left
  · rintro w' ⟨s0, s1, s2⟩
    go_simp
    with_reducible rfl
  rotate_left
  · simp only [Act.put, List.setIfInBounds_toArray, List.set_cons_zero, List.set_cons_succ, i64_w, i32_w]
    rfl
  refine pure_ (i := 4) (N := (some 10)) (v := ?_) (a' := ?_) #[true, true, true, true, true, false, false, false] rfl rfl (any_of HT_.out (by kernel_rfl)) (fun _ _ _ h => h) (Or.inl ⟨by rfl, ?_⟩) ?_ ?_
  rotate_left
  · intro w'
    go_simp
    with_reducible rfl
  rotate_left
  · simp only [Act.put, List.setIfInBounds_toArray, List.set_cons_zero, List.set_cons_succ, i64_w, i32_w]
    rfl
  refine one_ (i := 5) (N := (some 11)) #[true, true, true, true, true, true, false, false] rfl rfl (one_of HT_.out (by kernel_rfl)) (by decide) (fun K hK => ?_)
  obtain ⟨v0, st, w4, hrun, hg, ⟨s1, f1, hm1, hf1⟩, hst⟩ := HM3.out.entry ha_inj lawHK Try.underlying86 (fun u => zeroI u) (by unfold maxLen; have := HZ.out; omega) (x := e.h) hkl
  have HST := Aside0.mk hst
  have HG4 := Aside0.mk hg
  have HF4 := Aside0.mk (blk_grown HF3.out hg (fun q => HNF.out (Option.some.inj q)))
  have HE4 := Aside0.mk (blk_grown HE3.out hg (fun q => HNE.out (Option.some.inj q)))
  have HL4 := Aside0.mk (look_same hm1 hkl (hf1.trans (cV_at cnt e.h)))
  clear hst hg hm1 hf1
  refine value_ (by rfl) rfl (v := .tuple #[v0, goInt st]) (w1 := w4) (by first | (simp [execOp, Act.eval, hrun, Result.andThen]; done) | (go_simp; done)) ?_
  clear hrun
  refine hK.out _ _ ⟨fun i => blk_cell HF4.out i, fun i => blk_cell HE4.out i, HL4.out⟩ (fun hHeld => ?_)
  clear hK K
  refine norm_ (a' := ?_) ?_ ?_
  rotate_left
  · show Act.put _ (some 11) _ = _
    simp only [Act.put, List.setIfInBounds_toArray, List.set_cons_zero, List.set_cons_succ, i64_w, i32_w]
    rfl
  refine pure_ (i := 6) (N := (some 12)) (v := ?_) (a' := ?_) #[true, true, true, true, true, true, true, false] rfl rfl (any_of HT_.out (by kernel_rfl)) (fun _ _ _ h => h) (Or.inl ⟨by rfl, ?_⟩) ?_ ?_
  rotate_left
  · intro w'
    go_simp
    with_reducible rfl
  rotate_left
  · simp only [Act.put, List.setIfInBounds_toArray, List.set_cons_zero, List.set_cons_succ, i64_w, i32_w]
    rfl
  refine last_ (i := 7) (N := none) #[true, true, true, true, true, true, true, true] rfl rfl (one_of HT_.out (by kernel_rfl)) (by decide) (fun K hK => ?_)
  obtain ⟨w5, hrun, hm5, hg5⟩ := HST.out w4 (.int .i64 (wrap64 ((cnt e.h : Nat) + 1))) rfl
  have HM5 := Aside0.mk hm5
  have HG5 := Aside0.mk (HG4.out.trans hg5)
  have HF5 := Aside0.mk (blk_grown HF4.out hg5 (fun q => HNF.out (Option.some.inj q)))
  have HE5 := Aside0.mk (blk_grown HE4.out hg5 (fun q => HNE.out (Option.some.inj q)))
  clear hm5 hg5
  unfold goInt at hrun
  refine skip_ (by rfl) rfl (w1 := w5) (by first | (simp [execOp, Act.eval, hrun, Result.andThen]; done) | (go_simp; done)) ?_
  clear hrun
  refine hK.out _ _ ?_
  clear hK K
  refine done_ (done_of HT_.out (by kernel_rfl)) ?_
  have hm5 := HM5.out
  rw [HWW.out, cV_inc] at hm5
  have HMM := Aside0.mk hm5
  have hl5 := look_c hm5 hkl w5 rfl
  have hlf5 := blk_lt HF5.out
  have hle5 := blk_lt HE5.out
  have hcf := fun i => blk_cell HF5.out i
  have hce := fun i => blk_cell HE5.out i
  clear hm5 HM5 hHeld HT_ HW_ hlf
  have hv : decide (((inc cnt e.h (e.hn, e.hg) : Nat) : Int) > 1) = decide (cnt e.h + 1 > 1) := by
    have : inc cnt e.h (e.hn, e.hg) = cnt e.h + 1 := by unfold inc; rw [if_pos rfl]
    rw [this]
    by_cases q : cnt e.h + 1 > 1
    · rw [decide_eq_true q]; exact decide_eq_true (by omega)
    · rw [decide_eq_false q]; exact decide_eq_false (by omega)
  have HV := Aside0.mk hv
  clear hv
  go_wp2
  go_ret
  exact ⟨by have := HV.out; simpa using congrArg (fun x => Ending.returned (Value.bool x)) this, ⟨_, by split <;> omega, HF5.out, HMM.out⟩, HG3.out.trans HG5.out⟩

/-- How often something fired ahead of a place. -/
def cntN (g : Nat → Ev) : Nat → Ha → Nat
  | 0 => fun _ => 0
  | n + 1 => if (g n).k = 4 then inc (cntN g n) (g n).h else cntN g n
theorem cntN_le (g : Nat → Ev) (n : Nat) (h : Ha) : cntN g n h ≤ n := by
  induction n with
  | zero => exact Nat.le_refl _
  | succ n ih =>
    unfold cntN
    split
    · unfold inc; split <;> omega
    · omega
theorem cntN_pos (g : Nat → Ev) (n : Nat) (h : Ha) : 0 < cntN g n h ↔ ∃ j, j < n ∧ (g j).k = 4 ∧ (g j).h = h := by
  induction n with
  | zero => exact ⟨fun q => by simp [cntN] at q, fun ⟨j, q, _⟩ => by omega⟩
  | succ n ih =>
    have up : (∃ j, j < n ∧ (g j).k = 4 ∧ (g j).h = h) → ∃ j, j < n + 1 ∧ (g j).k = 4 ∧ (g j).h = h := fun ⟨j, q⟩ => ⟨j, by omega, q.2⟩
    unfold cntN
    by_cases hk : (g n).k = 4
    · rw [if_pos hk]
      unfold inc
      by_cases e : h = (g n).h
      · rw [if_pos e]; exact ⟨fun _ => ⟨n, by omega, hk, e.symm⟩, fun _ => by omega⟩
      · rw [if_neg e, ih]
        exact ⟨up, fun ⟨j, q1, q2, q3⟩ => ⟨j, by
          rcases Nat.lt_or_ge j n with z | z
          · exact z
          · obtain rfl : j = n := by omega
            exact absurd q3.symm e, q2, q3⟩⟩
    · rw [if_neg hk, ih]
      exact ⟨up, fun ⟨j, q1, q2, q3⟩ => ⟨j, by
        rcases Nat.lt_or_ge j n with z | z
        · exact z
        · obtain rfl : j = n := by omega
          exact absurd q2 hk, q2, q3⟩⟩
def twiceF (g : Nat → Ev) (i : Nat) : Bool := (g i).k == 4 && decide (cntN g i (g i).h + 1 > 1)
theorem twice_eq (g : Nat → Ev) (n : Nat) : firstN (twiceF g) n = firstN (twiceP g) n := firstN_congr fun i hi => by
  unfold twiceF twiceP
  congr 1
  rw [Bool.eq_iff_iff, decide_eq_true_eq, anyN_true]
  have := cntN_pos g i (g i).h
  constructor
  · intro q
    obtain ⟨j, h1, h2, h3⟩ := this.1 (by omega)
    exact ⟨j, h1, by simp [h2, h3]⟩
  · rintro ⟨j, h1, h2⟩
    simp only [Bool.and_eq_true, beq_iff_eq, decide_eq_true_eq] at h2
    have := this.2 ⟨j, h1, h2.1, h2.2⟩
    omega
/-- A story and the counts. -/
structure Jt (w W : World) (B b n m1 m2 fb mf k : Nat) (s : Story) (vl vv vc : Value) (cnt : Ha → Nat) : Prop where
  st : StIs W B b n s vl vv vc m1 m2
  ct : ∃ z, z ≤ k ∧ Ct W fb mf z cnt
  below : Below w.heap.size w W
  hm : w.heap.size ≤ mf
  h1 : mf ≠ m1
  h2 : mf ≠ m2
section
variable {w W W1 : World} {B b n m1 m2 fb mf k : Nat} {s : Story} {vl vv vc : Value} {cnt cnt' : Ha → Nat}
theorem Ct.below {z : Nat} (h : Ct W fb mf z cnt) (hb : Below W.heap.size W W1) : Ct W1 fb mf z cnt := ⟨blk_below h.fb_ hb, h.mf_.move (hb.block _ h.mf_.lt)⟩
theorem Jt.step (h : Jt w W B b n m1 m2 fb mf k s vl vv vc cnt) (hb : Below W.heap.size W W1) : Jt w W1 B b n m1 m2 fb mf k s vl vv vc cnt := by
  obtain ⟨z, hz, hc⟩ := h.ct
  exact ⟨h.st.below hb, ⟨z, hz, hc.below hb⟩, below_step h.below hb, h.hm, h.h1, h.h2⟩
theorem Jt.up (h : Jt w W B b n m1 m2 fb mf k s vl vv vc cnt) : Jt w W B b n m1 m2 fb mf (k + 1) s vl vv vc cnt := by
  obtain ⟨z, hz, hc⟩ := h.ct
  exact ⟨h.st, ⟨z, by omega, hc⟩, h.below, h.hm, h.h1, h.h2⟩
theorem StIs.map_apart (h : StIs W B b n s vl vv vc m1 m2) {es : Array MapEntry} {cl : Nat} (q : W.heap[mf]? = some (.map es cl)) (hg : W.grownBy W1 (some mf)) (h1 : mf ≠ m1) (h2 : mf ≠ m2) : StIs W1 B b n s vl vv vc m1 m2 := by
  obtain ⟨z1, hz1, hm1⟩ := h.ma
  obtain ⟨z2, hz2, hm2⟩ := h.mo
  have row : ∀ {α : Type} {T k : Nat} {A : α → Array Value} {v : Value} {l : List α}, RowIs W B T k A v l → RowIs W1 B T k A v l := by
    intro α T k A v l r
    refine r.kept hg ?_
    cases hv : v.ownBlock with
    | none => exact .inl rfl
    | some g => exact .inr (fun z => by obtain ⟨cur, hc⟩ := r.own hv; exact map_ne hc q (Option.some.inj z))
  exact ⟨blk_grown h.blk hg (fun z => map_ne h.blk q (Option.some.inj z)), row h.rl, row h.rv, row h.rc, ⟨z1, hz1, hm1.move (hg.block m1 hm1.lt (fun z => h1 (Option.some.inj z).symm))⟩, ⟨z2, hz2, hm2.move (hg.block m2 hm2.lt (fun z => h2 (Option.some.inj z).symm))⟩, h.hb, h.h1, h.h2, h.m12⟩
end
theorem twice_clo {l : List Ev} (hn : l.length ≤ 1000000) (hwf : ∀ e ∈ l, wfE e) {w W : World} {B b m1 m2 fb mf : Nat} {vl vv vc : Value} (i : Nat) (e : Ev) (he : (storyN (gOf l) l.length).l[i]? = some e) (hk : e.k = 4) (h : Jt w W B b l.length m1 m2 fb mf i (storyN (gOf l) l.length) vl vv vc (cntN (gOf l) i)) :
    Calls Try.prog 49 (#[.int .i64 (i : Int), .agg (evA e)] ++ #[.pointer (some ⟨fb, 0, none⟩)]) W fun r W' => r = .returned (.bool (twiceF (gOf l) i)) ∧ Jt w W' B b l.length m1 m2 fb mf (i + 1) (storyN (gOf l) l.length) vl vv vc (cntN (gOf l) (i + 1)) := by
  obtain ⟨hi, heq⟩ := get_l hn he
  have hwe : wfE e := by rw [heq]; exact wf_g hwf hi
  have hp : twiceF (gOf l) i = decide (cntN (gOf l) i e.h + 1 > 1) := by unfold twiceF; rw [← heq, beq_iff_eq.2 hk, Bool.true_and]
  have hc1 : cntN (gOf l) (i + 1) = inc (cntN (gOf l) i) e.h := by rw [cntN, ← heq, if_pos hk]
  have ha : (#[.int .i64 (i : Int), .agg (evA e)] ++ #[.pointer (some ⟨fb, 0, none⟩)] : Array Value) = #[.int .i64 (i : Int), .agg (evA e), .pointer (some ⟨fb, 0, none⟩)] := by simp
  obtain ⟨z, hz, hct⟩ := h.ct
  have hcl := twice_clo1 i e W hct (keyH _ _ hwe.2.1 hwe.2.2.1) (by omega) (by have := cntN_le (gOf l) i e.h; omega)
  rw [ha, hp, hc1]
  generalize storyN (gOf l) l.length = s at h ⊢
  generalize cntN (gOf l) i = cnt at hcl h hct ⊢
  refine hcl.mono ?_
  rintro r W' ⟨hr, ⟨z', hz', hct'⟩, hg⟩
  obtain ⟨_, _, q⟩ := hct.mf_.block
  exact ⟨hr, h.st.map_apart q hg h.h1 h.h2, ⟨z', by omega, hct'⟩, h.below.grown hg h.below.size (fun j hj => by cases hj; exact h.hm), h.hm, h.h1, h.h2⟩
theorem twice_first {l : List Ev} (hn : l.length ≤ 1000000) (hwf : ∀ e ∈ l, wfE e) {w W : World} {B b m1 m2 fb mf : Nat} {vl vv vc : Value} (hJ : Jt w W B b l.length m1 m2 fb mf 0 (storyN (gOf l) l.length) vl vv vc (cntN (gOf l) 0)) :
    Calls Try.prog 48 #[.pointer (some ⟨b, 0, none⟩), .int .i64 4, .func (.func 49) #[] #[.pointer (some ⟨fb, 0, none⟩)]] W (FirstPost (twiceF (gOf l)) l.length (fun k W' => Jt w W' B b l.length m1 m2 fb mf k (storyN (gOf l) l.length) vl vv vc (cntN (gOf l) k))) := by
  have INV := inv_all (gOf l) l.length (by unfold noEnd; omega)
  have h := Au.first_twice #[.pointer (some ⟨fb, 0, none⟩)] 4 (twiceF (gOf l)) (fun k W' => Jt w W' B b l.length m1 m2 fb mf k (storyN (gOf l) l.length) vl vv vc (cntN (gOf l) k)) (by rw [INV.len]; exact hn) (fun _ _ h => h.st) (fun _ _ _ h hb => h.step hb)
      (fun i e W he hk h => ⟨by rw [show cntN (gOf l) (i + 1) = cntN (gOf l) i by rw [cntN, ← (get_l hn he).2, if_neg hk]]; exact h.up, by unfold twiceF; rw [← (get_l hn he).2, beq_eq_false_iff_ne.2 hk]; rfl⟩)
      (fun i e W he hk h => twice_clo hn hwf i e he hk h) W hJ
  rw [INV.len] at h
  exact h
set_option maxHeartbeats 4000000 in
set_option maxRecDepth 100000 in
theorem twice_top (A1 : Option Addr) (c1 : Nat) (l : List Ev) (hn : l.length ≤ 1000000) (w : World) (hin : ∀ (i : Nat) e, l[i]? = some e → EvAt w A1 i e) (hwf : ∀ e ∈ l, wfE e) :
    Calls Try.prog 17 #[.slice A1 l.length c1] w fun r w' => r = .returned (.int .i64 (twiceI (gOf l) l.length)) ∧ Below w.heap.size w w' := by
  have hmf : ∀ (fn : Fn) (first cap : Array Value) (w : World), (Instr.makeFunc fn first cap).run Try.prog w = .ok (.func fn first cap) w := fun _ _ _ _ => rfl
  have hmm := @run_makeMap Try.prog
  have HB0 := Aside0.mk (below_alloc (below_alloc (Below.refl w.heap.size w) (.map #[] 0)) (.cells #[.map (some w.heap.size)] 86))
  have HC0 : Aside0 (Ct ((w.alloc (.map #[] 0)).alloc (.cells #[.map (some w.heap.size)] 86)) (w.heap.size + 1) w.heap.size 0 (fun _ => 0)) := ⟨two_alloc _ _ _, (MapIs.made (c := haV) w Try.prog 34).move (by rw [Below.heap_alloc _ _ _ (by simp)])⟩
  have CR := Aside0.mk (read_any A1 c1 l hn ((w.alloc (.map #[] 0)).alloc (.cells #[.map (some w.heap.size)] 86)) (fun i e he => (hin i e he).below HB0.out) hwf)
  have CF : Aside0 (∀ W B b m1 m2 fb mf vl vv vc, Jt w W B b l.length m1 m2 fb mf 0 (storyN (gOf l) l.length) vl vv vc (cntN (gOf l) 0) → Calls Try.prog 48 #[.pointer (some ⟨b, 0, none⟩), .int .i64 4, .func (.func 49) #[] #[.pointer (some ⟨fb, 0, none⟩)]] W (FirstPost (twiceF (gOf l)) l.length (fun k W' => Jt w W' B b l.length m1 m2 fb mf k (storyN (gOf l) l.length) vl vv vc (cntN (gOf l) k)))) := ⟨fun W B b m1 m2 fb mf vl vv vc hJ => twice_first hn hwf hJ⟩
  have HE := Aside0.mk (show oI (firstN (twiceF (gOf l)) l.length) = twiceI (gOf l) l.length by unfold twiceI; rw [twice_eq])
  clear hin hwf
  go_enter Try.func17, Try.ntmps17
  go_wp2_with (first
    | (go_at_call 47; (with_reducible refine CR.out.mono ?_); rintro r w2 ⟨b, m1, m2, vl, vv, vc, rfl, hS, hb⟩; have HJ := Aside0.mk (show Jt w w2 _ b l.length m1 m2 (w.heap.size + 1) w.heap.size 0 _ vl vv vc (cntN (gOf l) 0) from ⟨hS, ⟨0, Nat.le_refl _, HC0.out.below hb⟩, below_step HB0.out hb, Nat.le_refl _, by have := hS.h1; simp at this; omega, by have := hS.h2; simp at this; omega⟩); clear hS hb)
    | (go_at_call 48; (with_reducible refine (CF.out _ _ b m1 m2 (w.heap.size + 1) w.heap.size vl vv vc HJ.out).mono ?_); rintro r w3 ⟨rfl, k3, hJ3⟩; have HB3 := Aside0.mk hJ3.below; clear hJ3))
  go_ret
  exact ⟨by rw [← HE.out]; rfl, HB3.out⟩
/-- Do an event's numbers fit? -/
def wfB (e : Ev) : Bool := (Lit.int .i64 e.wk).wf && ((Lit.int .i64 e.hn).wf && ((Lit.int .i64 e.hg).wf && ((Lit.int .i64 e.nn).wf && (Lit.int .i64 e.ng).wf)))
theorem wfE_of {e : Ev} (h : wfB e = true) : wfE e := by
  unfold wfB at h
  simp only [Bool.and_eq_true] at h
  exact h
end Go.Proofs.Ythniclbmpeklmaa.Au
