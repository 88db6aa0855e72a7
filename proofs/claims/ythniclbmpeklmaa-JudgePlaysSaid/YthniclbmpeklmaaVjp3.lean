/- What is proved: a part of the way to the statement JudgePlaysSaid: JuE; no conditions. Put together by a program of this session (claimv.py). -/
import Derived.Test.YthniclbmpeklmaaVjp2
section
set_option maxHeartbeats 4000000
set_option maxRecDepth 100000
namespace Go.Proofs.Ythniclbmpeklmaa.Ju
open Go.RowKit Go.Maps Go.Proofs.YthniclbmpeklmaaW.PrintWords Go.Proofs.YthniclbmpeklmaaW.PrintLast Go.Proofs.YthniclbmpeklmaaW.PrintMore Go.Proofs.Ythniclbmpeklmaa.Mp Go.Proofs.Ythniclbmpeklmaa.Au
set_option linter.unusedVariables false
set_option linter.unusedSimpArgs false
attribute [local go_sem high] Ev.eqHa
theorem within_at (d t f g : Int) (w : World) : Calls Try.prog 95 #[.int .i64 d, .int .i64 t, .int .i64 f, .int .i64 g] w fun r w' => r = .returned (.bool (withinB d t f g)) ∧ w = w' := (within_any d t f g w).mono fun _ _ ⟨a, b⟩ => ⟨a, b.symm⟩
theorem do_end {w : World} {B b mb m1 m2 m3 eb g : Nat} {s : Be} {pf : Int → Option Nat} {e iv : Ev} {k : Wk} {pp : Option Addr} {W : World} {n' : Nat} {m' : Md} (h : Wj w W B b n' mb m1 m2 m3 { s with m := m' } pf e eb g iv k.beg pp) (hk : s.wks e.wk = some k) (hp : pf e.wk = some g) (hg : B ≤ g) :
  BeIs (W.setCell ⟨g, 13, none⟩ (pA eb)) B b n' { s with m := m', wks := updW s.wks e.wk (some { k with pt := some (ptOf e) }) } mb m1 m2 m3 pf ∧ Blw B w (W.setCell ⟨g, 13, none⟩ (pA eb)) :=
 ⟨h.bj.be.pointed (k := k) hk hp h.bj.eb_ h.bj.he, h.bj.bel.set h.gb hg 13 _⟩
def bpR.T5 : Bool × List (List Nat × List Nat) := (true, [([], []), ([0], [0]), ([1], [1]), ([2, 1], [1, 2]), ([1], [1]), ([4, 1], [1, 4]), ([5, 1], [1, 5]), ([6, 1], [1, 6]), ([7, 1], [1, 7]), ([1], [1]), ([9, 1], [1, 9]), ([10, 1], [1, 10]), ([11, 1], [1, 11]), ([1], [1]), ([13, 1], [1, 13]), ([14, 1], [1, 14]), ([15, 1], [1, 15]), ([16, 1, 1], [1, 16]), ([3, 8, 12, 17, 17, 1], [1, 3, 8, 12, 17]), ([18, 1], [1, 18]), ([1, 19], [1, 19]), ([20, 18], [20])])
def bpR.B5 : List Nat := [0, 1, 3, 7, 3, 19, 51, 115, 243, 3, 515, 1539, 3587, 3, 8195, 24579, 57347, 122883, 262143, 524287, 1048575, 2097151]
theorem bpR.tab5 : rtab .any (opsOf Try.f66 5) = bpR.T5 := by kernel_rfl
theorem bpR.bits5 : waitsOk bpR.T5.2 bpR.B5 = true := by kernel_rfl
def bpR.T7 : Bool × List (List Nat × List Nat) := (true, [([], []), ([0], [0]), ([1], [1]), ([2], [2]), ([], []), ([3, 4], [3, 4]), ([5, 5, 0, 1, 2, 3, 4, 5], [5])])
def bpR.B7 : List Nat := [0, 1, 3, 7, 0, 31, 63]
theorem bpR.tab7 : rtab .any (opsOf Try.f66 7) = bpR.T7 := by kernel_rfl
theorem bpR.bits7 : waitsOk bpR.T7.2 bpR.B7 = true := by kernel_rfl
theorem bpoint_again {w : World} {B b n mb m1 m2 m3 g : Nat} {s : Be} {pf : Int → Option Nat} {k : Wk} (e iv : Ev) (hw : (Lit.int .i64 e.hn).wf = true ∧ (Lit.int .i64 e.hg).wf = true ∧ (Lit.int .i64 e.nn).wf = true ∧ (Lit.int .i64 e.ng).wf = true) (hn : n + 1 ≤ 1000000) (hwl : ∀ x, (Lit.int .i64 ((s.m.lst x).getD 0)).wf = true) {q : Nat} (h : BeIs w B b n s mb m1 m2 m3 pf) (hB : B ≤ w.heap.size) (hk : s.wks e.wk = some k) (hp : pf e.wk = some g) (hgb : w.heap[g]? = some (.cells (wkA iv k.beg (some ⟨q, 0, none⟩)) 119 (0, 0))) (hBg : B ≤ g) (hpt : k.pt.isSome = true) :
  Calls Try.prog 66 #[pA b, pA g, .agg (evA e)] w (BePost w B b n mb m1 m2 m3 (pointB s k e)) := by
 have hu0 := Try.underlying61
 have hu1 := Try.underlying34
 have hu2 := Try.underlying54
 have hu3 := Try.underlying119
 have HF := Aside0.mk (show pointB s k e = (s, 6) by unfold pointB pointOk; rw [hpt]; rfl)
 have HW := Aside0.mk hw
 have HN := Aside0.mk hn
 have HWL := Aside0.mk hwl
 have HK := Aside0.mk (And.intro hk (And.intro hp hBg))
 have HJ := Aside0.mk (show Wj w (w.alloc (.cells (evA e) 54)) B b n mb m1 m2 m3 s pf e w.heap.size g iv k.beg (some ⟨q, 0, none⟩) from ⟨Bj.start h hB e, blk_alloc hgb _⟩)
 clear hw hn hwl hk hp hBg h hB hgb hpt
 have hcb := fun i => HJ.out.bj.be.cell i
 have hce := fun i => blk_cell HJ.out.bj.eb_ i
 have hcg := fun i => blk_cell HJ.out.gb i
 have hlb := HJ.out.bj.be.lt
 have hle := blk_lt HJ.out.bj.eb_
 have hlg := blk_lt HJ.out.gb
 go_enter Try.func66, Try.ntmps66
 go_wp2
 all_goals
  go_ret
  exact BePost.of HF.out rfl (HJ.out.bj.be.up (by omega)) HJ.out.bj.bel
theorem bpoint_m1_late {w : World} {B b n mb m1 m2 m3 g : Nat} {s : Be} {pf : Int → Option Nat} {k : Wk} (e iv : Ev) (hw : (Lit.int .i64 e.hn).wf = true ∧ (Lit.int .i64 e.hg).wf = true ∧ (Lit.int .i64 e.nn).wf = true ∧ (Lit.int .i64 e.ng).wf = true) (hn : n + 1 ≤ 1000000) (hwl : ∀ x, (Lit.int .i64 ((s.m.lst x).getD 0)).wf = true) (h : BeIs w B b n s mb m1 m2 m3 pf) (hB : B ≤ w.heap.size) (hk : s.wks e.wk = some k) (hp : pf e.wk = some g) (hgb : w.heap[g]? = some (.cells (wkA iv k.beg none) 119 (0, 0))) (hBg : B ≤ g) (hpt : k.pt = none) (hh : k.hn = iv.hn ∧ k.hg = iv.hg ∧ k.t = iv.t) (ho : e.op = 1) (h0 : e.er = 0) (hwb : (withinB e.t iv.t k.beg s.m.clk) = false) :
  Calls Try.prog 66 #[pA b, pA g, .agg (evA e)] w (BePost w B b n mb m1 m2 m3 (pointB s k e)) := by
 have hu0 := Try.underlying61
 have hu1 := Try.underlying34
 have hu2 := Try.underlying54
 have hu3 := Try.underlying119
 have HF := Aside0.mk (show pointB s k e = (s, 6) by unfold pointB pointOk; rw [hpt, hh.1, hh.2.1, hh.2.2]; rw [hwb]; simp [ho, h0])
 have q0 : (e.er == 0) = true := beq_iff_eq.2 (h0)
 have r0 : (e.er != 0) = false := bne_eq_false_iff_eq.2 (h0)
 have q1 : (e.op == 1) = true := beq_iff_eq.2 (ho)
 have r1 : (e.op != 1) = false := bne_eq_false_iff_eq.2 (ho)
 have hw0 := hwb
 have HW := Aside0.mk hw
 have HN := Aside0.mk hn
 have HWL := Aside0.mk hwl
 have HK := Aside0.mk (And.intro hk (And.intro hp hBg))
 have HJ := Aside0.mk (show Wj w (w.alloc (.cells (evA e) 54)) B b n mb m1 m2 m3 s pf e w.heap.size g iv k.beg none from ⟨Bj.start h hB e, blk_alloc hgb _⟩)
 clear hw hn hwl hk hp hBg h hB hgb hpt hh ho h0 hwb
 have hcb := fun i => HJ.out.bj.be.cell i
 have hce := fun i => blk_cell HJ.out.bj.eb_ i
 have hcg := fun i => blk_cell HJ.out.gb i
 have hlb := HJ.out.bj.be.lt
 have hle := blk_lt HJ.out.bj.eb_
 have hlg := blk_lt HJ.out.gb
 go_enter Try.func66, Try.ntmps66
 go_upto_region 3 with (fail)
 refine gen_world' (fun W => Wj w W B b n mb m1 m2 m3 s pf e w.heap.size g iv k.beg none) (by exact HJ.out) fun w3 Hw3 => ?_
 have HJw3 := Aside0.mk Hw3
 clear Hw3
 clear hcb hce hcg hlb hle hlg
 have hcb := fun i => HJw3.out.bj.be.cell i
 have hce := fun i => blk_cell HJw3.out.bj.eb_ i
 have hcg := fun i => blk_cell HJw3.out.gb i
 have hlb := HJw3.out.bj.be.lt
 have hle := blk_lt HJw3.out.bj.eb_
 have hlg := blk_lt HJw3.out.gb
 go_quiet (fail)
 go_upto_region 5 with (fail)
 refine gen_world' (fun W => Wj w W B b n mb m1 m2 m3 s pf e w.heap.size g iv k.beg none) (by exact HJw3.out.drewN _) fun w4 Hw4 => ?_
 have HJw4 := Aside0.mk Hw4
 clear Hw4
 clear hcb hce hcg hlb hle hlg
 have hcb := fun i => HJw4.out.bj.be.cell i
 have hce := fun i => blk_cell HJw4.out.bj.eb_ i
 have hcg := fun i => blk_cell HJw4.out.gb i
 have hlb := HJw4.out.bj.be.lt
 have hle := blk_lt HJw4.out.bj.eb_
 have hlg := blk_lt HJw4.out.gb
 refine start_ (n := 22) (S := (fun w' => (∀ i, w'.cell? ⟨b, i, none⟩ = (beA s.nw mb m3)[i]?) ∧ (∀ i, w'.cell? ⟨w.heap.size, i, none⟩ = (evA e)[i]?) ∧ (∀ i, w'.cell? ⟨g, i, none⟩ = (wkA iv k.beg none)[i]?))) (ds := []) #[ff,ff,ff,ff,ff,ff,ff,ff,ff,ff,ff,ff,ff,ff,ff,ff,ff,ff,ff,ff,ff,ff] (by kernel_rfl) rfl rfl HJw4.out.drew.cells (fun hHeld => ?_)
 refine with_tabW bpR.tab5 bpR.bits5 (fun HT_ HW_ => ?_)
 have HJ5 := Aside0.mk HJw4.out.drew
 generalize w4.drew = w5 at HJ5 hHeld ⊢
 clear hcb hce hcg hlb hle hlg
 have hlb := HJ5.out.bj.be.lt
 have hle := blk_lt HJ5.out.bj.eb_
 have hlg := blk_lt HJ5.out.gb
 refine pure_ (i := 0) (N := (some 42)) (v := ?_) (a' := ?_) #[tt,ff,ff,ff,ff,ff,ff,ff,ff,ff,ff,ff,ff,ff,ff,ff,ff,ff,ff,ff,ff,ff] rfl rfl (any_of HT_.out (by kernel_rfl)) (fun _ _ _ h => h) (Or.inl ⟨by rfl, ?_⟩) ?_ ?_
 rotate_left
 ·intro w'
  go_simp
  with_reducible rfl
 rotate_left
 ·simp only [Act.put, sQ0, sQ1, sQ2, i64_w]
  rfl
 refine pure_ (i := 1) (N := (some 43)) (v := ?_) (a' := ?_) #[tt,tt,ff,ff,ff,ff,ff,ff,ff,ff,ff,ff,ff,ff,ff,ff,ff,ff,ff,ff,ff,ff] rfl rfl (any_of HT_.out (by kernel_rfl)) (fun _ _ _ h => h) (Or.inl ⟨by rfl, ?_⟩) ?_ ?_
 rotate_left
 ·intro w'
  go_simp
  with_reducible rfl
 rotate_left
 ·simp only [Act.put, sQ0, sQ1, sQ2, i64_w]
  rfl
 refine pure_ (i := 2) (N := (some 44)) (v := ?_) (a' := ?_) #[tt,tt,tt,ff,ff,ff,ff,ff,ff,ff,ff,ff,ff,ff,ff,ff,ff,ff,ff,ff,ff,ff] rfl rfl (any_of HT_.out (by kernel_rfl)) (fun _ _ _ h => h) (Or.inl ⟨by rfl, ?_⟩) ?_ ?_
 rotate_left
 ·intro w'
  go_simp
  with_reducible rfl
 rotate_left
 ·simp only [Act.put, sQ0, sQ1, sQ2, i64_w]
  rfl
 refine pure_ (i := 4) (N := (some 46)) (v := ?_) (a' := ?_) #[tt,tt,tt,ff,tt,ff,ff,ff,ff,ff,ff,ff,ff,ff,ff,ff,ff,ff,ff,ff,ff,ff] rfl rfl (any_of HT_.out (by kernel_rfl)) (fun _ _ _ h => h) (Or.inl ⟨by rfl, ?_⟩) ?_ ?_
 rotate_left
 ·intro w'
  go_simp
  with_reducible rfl
 rotate_left
 ·simp only [Act.put, sQ0, sQ1, sQ2, i64_w]
  rfl
 refine pure_ (i := 5) (N := (some 47)) (v := ?_) (a' := ?_) #[tt,tt,tt,ff,tt,tt,ff,ff,ff,ff,ff,ff,ff,ff,ff,ff,ff,ff,ff,ff,ff,ff] rfl rfl (any_of HT_.out (by kernel_rfl)) (fun _ _ _ h => h) (Or.inl ⟨by rfl, ?_⟩) ?_ ?_
 rotate_left
 ·intro w'
  go_simp
  with_reducible rfl
 rotate_left
 ·simp only [Act.put, sQ0, sQ1, sQ2, i64_w]
  rfl
 refine pure_ (i := 6) (N := (some 48)) (v := ?_) (a' := ?_) #[tt,tt,tt,ff,tt,tt,tt,ff,ff,ff,ff,ff,ff,ff,ff,ff,ff,ff,ff,ff,ff,ff] rfl rfl (any_of HT_.out (by kernel_rfl)) (fun _ _ _ h => h) (Or.inl ⟨by rfl, ?_⟩) ?_ ?_
 rotate_left
 ·intro w'
  go_simp
  with_reducible rfl
 rotate_left
 ·simp only [Act.put, sQ0, sQ1, sQ2, i64_w]
  rfl
 refine pure_ (i := 7) (N := (some 49)) (v := ?_) (a' := ?_) #[tt,tt,tt,ff,tt,tt,tt,tt,ff,ff,ff,ff,ff,ff,ff,ff,ff,ff,ff,ff,ff,ff] rfl rfl (any_of HT_.out (by kernel_rfl)) (fun _ _ _ h => h) (Or.inl ⟨by rfl, ?_⟩) ?_ ?_
 rotate_left
 ·intro w'
  go_simp
  with_reducible rfl
 rotate_left
 ·simp only [Act.put, sQ0, sQ1, sQ2, i64_w]
  rfl
 refine pure_ (i := 9) (N := (some 51)) (v := ?_) (a' := ?_) #[tt,tt,tt,ff,tt,tt,tt,tt,ff,tt,ff,ff,ff,ff,ff,ff,ff,ff,ff,ff,ff,ff] rfl rfl (any_of HT_.out (by kernel_rfl)) (fun _ _ _ h => h) (Or.inl ⟨by rfl, ?_⟩) ?_ ?_
 rotate_left
 ·intro w'
  go_simp
  with_reducible rfl
 rotate_left
 ·simp only [Act.put, sQ0, sQ1, sQ2, i64_w]
  rfl
 refine pure_ (i := 10) (N := (some 52)) (v := ?_) (a' := ?_) #[tt,tt,tt,ff,tt,tt,tt,tt,ff,tt,tt,ff,ff,ff,ff,ff,ff,ff,ff,ff,ff,ff] rfl rfl (any_of HT_.out (by kernel_rfl)) (fun _ _ _ h => h) (Or.inl ⟨by rfl, ?_⟩) ?_ ?_
 rotate_left
 ·intro w'
  go_simp
  with_reducible rfl
 rotate_left
 ·simp only [Act.put, sQ0, sQ1, sQ2, i64_w]
  rfl
 refine pure_ (i := 11) (N := (some 53)) (v := ?_) (a' := ?_) #[tt,tt,tt,ff,tt,tt,tt,tt,ff,tt,tt,tt,ff,ff,ff,ff,ff,ff,ff,ff,ff,ff] rfl rfl (any_of HT_.out (by kernel_rfl)) (fun _ _ _ h => h) (Or.inl ⟨by rfl, ?_⟩) ?_ ?_
 rotate_left
 ·intro w'
  go_simp
  with_reducible rfl
 rotate_left
 ·simp only [Act.put, sQ0, sQ1, sQ2, i64_w]
  rfl
 refine pure_ (i := 13) (N := (some 55)) (v := ?_) (a' := ?_) #[tt,tt,tt,ff,tt,tt,tt,tt,ff,tt,tt,tt,ff,tt,ff,ff,ff,ff,ff,ff,ff,ff] rfl rfl (any_of HT_.out (by kernel_rfl)) (fun _ _ _ h => h) (Or.inl ⟨by rfl, ?_⟩) ?_ ?_
 rotate_left
 ·intro w'
  go_simp
  with_reducible rfl
 rotate_left
 ·simp only [Act.put, sQ0, sQ1, sQ2, i64_w]
  rfl
 refine pure_ (i := 14) (N := (some 56)) (v := ?_) (a' := ?_) #[tt,tt,tt,ff,tt,tt,tt,tt,ff,tt,tt,tt,ff,tt,tt,ff,ff,ff,ff,ff,ff,ff] rfl rfl (any_of HT_.out (by kernel_rfl)) (fun _ _ _ h => h) (Or.inl ⟨by rfl, ?_⟩) ?_ ?_
 rotate_left
 ·intro w'
  go_simp
  with_reducible rfl
 rotate_left
 ·simp only [Act.put, sQ0, sQ1, sQ2, i64_w]
  rfl
 refine pure_ (i := 15) (N := (some 57)) (v := ?_) (a' := ?_) #[tt,tt,tt,ff,tt,tt,tt,tt,ff,tt,tt,tt,ff,tt,tt,tt,ff,ff,ff,ff,ff,ff] rfl rfl (any_of HT_.out (by kernel_rfl)) (fun _ _ _ h => h) (Or.inl ⟨by rfl, ?_⟩) ?_ ?_
 rotate_left
 ·intro w'
  go_simp
  with_reducible rfl
 rotate_left
 ·simp only [Act.put, sQ0, sQ1, sQ2, i64_w]
  rfl
 refine take_ (i := 3) (N := (some 45)) (v := ?_) (a' := ?_) #[tt,tt,tt,tt,tt,tt,tt,tt,ff,tt,tt,tt,ff,tt,tt,tt,ff,ff,ff,ff,ff,ff] rfl rfl (take_ofW HT_.out HW_.out (by kernel_rfl)) (fun _ _ _ h => h) (Or.inl ⟨by rfl, ?_⟩) hHeld ?_ ?_
 rotate_left
 ·rintro w' ⟨s0, s1, s2⟩
  go_simp
  with_reducible rfl
 rotate_left
 ·simp only [Act.put, sQ0, sQ1, sQ2, i64_w]
  rfl
 refine take_ (i := 8) (N := (some 50)) (v := ?_) (a' := ?_) #[tt,tt,tt,tt,tt,tt,tt,tt,tt,tt,tt,tt,ff,tt,tt,tt,ff,ff,ff,ff,ff,ff] rfl rfl (take_ofW HT_.out HW_.out (by kernel_rfl)) (fun _ _ _ h => h) (Or.inl ⟨by rfl, ?_⟩) hHeld ?_ ?_
 rotate_left
 ·rintro w' ⟨s0, s1, s2⟩
  go_simp
  with_reducible rfl
 rotate_left
 ·simp only [Act.put, sQ0, sQ1, sQ2, i64_w]
  rfl
 refine take_ (i := 12) (N := (some 54)) (v := ?_) (a' := ?_) #[tt,tt,tt,tt,tt,tt,tt,tt,tt,tt,tt,tt,tt,tt,tt,tt,ff,ff,ff,ff,ff,ff] rfl rfl (take_ofW HT_.out HW_.out (by kernel_rfl)) (fun _ _ _ h => h) (Or.inl ⟨by rfl, ?_⟩) hHeld ?_ ?_
 rotate_left
 ·rintro w' ⟨s0, s1, s2⟩
  go_simp
  with_reducible rfl
 rotate_left
 ·simp only [Act.put, sQ0, sQ1, sQ2, i64_w]
  rfl
 refine take_ (i := 16) (N := (some 58)) (v := ?_) (a' := ?_) #[tt,tt,tt,tt,tt,tt,tt,tt,tt,tt,tt,tt,tt,tt,tt,tt,tt,ff,ff,ff,ff,ff] rfl rfl (take_ofW HT_.out HW_.out (by kernel_rfl)) (fun _ _ _ h => h) (Or.inl ⟨by rfl, ?_⟩) hHeld ?_ ?_
 rotate_left
 ·rintro w' ⟨s0, s1, s2⟩
  go_simp
  with_reducible rfl
 rotate_left
 ·simp only [Act.put, sQ0, sQ1, sQ2, i64_w]
  rfl
 refine one_ (i := 17) (N := (some 59)) #[tt,tt,tt,tt,tt,tt,tt,tt,tt,tt,tt,tt,tt,tt,tt,tt,tt,tt,ff,ff,ff,ff] rfl rfl (one_of HT_.out (by kernel_rfl)) (by decide) (fun K hK => ?_)
 refine call_ (f := 41) #[pA mb] (by rfl) rfl (by go_simp <;> rfl) ?_
 refine (model_clock HJ5.out.bj.be.md).mono ?_
 rintro r w6 ⟨rfl, rfl⟩
 refine ⟨_, rfl, ?_⟩
 refine hK.out _ _ HJ5.out.cells (fun hHeld => ?_)
 clear hK K
 refine norm_ (a' := ?_) ?_ ?_
 rotate_left
 ·show Act.put _ (some 59) _ = _
  simp only [Act.put, sQ0, sQ1, sQ2, i64_w]
  rfl
 refine one_ (i := 18) (N := (some 60)) #[tt,tt,tt,tt,tt,tt,tt,tt,tt,tt,tt,tt,tt,tt,tt,tt,tt,tt,tt,ff,ff,ff] rfl rfl (one_of HT_.out (by kernel_rfl)) (by decide) (fun K hK => ?_)
 refine call_ (f := 95) #[.int .i64 e.t, .int .i64 iv.t, .int .i64 k.beg, .int .i64 s.m.clk] (by rfl) rfl (by go_simp <;> rfl) ?_
 refine (within_at _ _ _ _ w5).mono ?_
 rintro r w6 ⟨rfl, rfl⟩
 refine ⟨_, rfl, ?_⟩
 refine hK.out _ _ HJ5.out.cells (fun hHeld => ?_)
 clear hK K
 refine norm_ (a' := ?_) ?_ ?_
 rotate_left
 ·show Act.put _ (some 60) _ = _
  simp only [Act.put, sQ0, sQ1, sQ2, i64_w]
  rfl
 refine pure_ (i := 19) (N := (some 61)) (v := ?_) (a' := ?_) #[tt,tt,tt,tt,tt,tt,tt,tt,tt,tt,tt,tt,tt,tt,tt,tt,tt,tt,tt,tt,ff,ff] rfl rfl (any_of HT_.out (by kernel_rfl)) (fun _ _ _ h => h) (Or.inl ⟨by rfl, ?_⟩) ?_ ?_
 rotate_left
 ·intro w'
  go_simp
  with_reducible rfl
 rotate_left
 ·simp only [Act.put, sQ0, sQ1, sQ2, i64_w]
  rfl
 refine pure_ (i := 20) (N := (some 62)) (v := ?_) (a' := ?_) #[tt,tt,tt,tt,tt,tt,tt,tt,tt,tt,tt,tt,tt,tt,tt,tt,tt,tt,tt,tt,tt,ff] rfl rfl (any_of HT_.out (by kernel_rfl)) (fun _ _ _ h => h) (Or.inl ⟨by rfl, ?_⟩) ?_ ?_
 rotate_left
 ·intro w'
  go_simp
  with_reducible rfl
 rotate_left
 ·simp only [Act.put, sQ0, sQ1, sQ2, i64_w]
  rfl
 refine pure_ (i := 21) (N := (some 41)) (v := ?_) (a' := ?_) #[tt,tt,tt,tt,tt,tt,tt,tt,tt,tt,tt,tt,tt,tt,tt,tt,tt,tt,tt,tt,tt,tt] rfl rfl (any_of HT_.out (by kernel_rfl)) (fun _ _ _ h => h) (Or.inl ⟨by rfl, ?_⟩) ?_ ?_
 rotate_left
 ·intro w'
  go_simp
  with_reducible rfl
 rotate_left
 ·simp only [Act.put, sQ0, sQ1, sQ2, i64_w]
  rfl
 refine done_ (done_of HT_.out (by kernel_rfl)) ?_
 clear hHeld
 have hcb := fun i => HJ5.out.bj.be.cell i
 have hce := fun i => blk_cell HJ5.out.bj.eb_ i
 have hcg := fun i => blk_cell HJ5.out.gb i
 go_wp2
 go_ret
 exact BePost.of HF.out rfl (HJ5.out.bj.be.up (by omega)) HJ5.out.bj.bel
theorem bpoint_m1_ok {w : World} {B b n mb m1 m2 m3 g : Nat} {s : Be} {pf : Int → Option Nat} {k : Wk} (e iv : Ev) (hw : (Lit.int .i64 e.hn).wf = true ∧ (Lit.int .i64 e.hg).wf = true ∧ (Lit.int .i64 e.nn).wf = true ∧ (Lit.int .i64 e.ng).wf = true) (hn : n + 1 ≤ 1000000) (hwl : ∀ x, (Lit.int .i64 ((s.m.lst x).getD 0)).wf = true) (h : BeIs w B b n s mb m1 m2 m3 pf) (hB : B ≤ w.heap.size) (hk : s.wks e.wk = some k) (hp : pf e.wk = some g) (hgb : w.heap[g]? = some (.cells (wkA iv k.beg none) 119 (0, 0))) (hBg : B ≤ g) (hpt : k.pt = none) (hh : k.hn = iv.hn ∧ k.hg = iv.hg ∧ k.t = iv.t) (ho : e.op = 1) (h0 : e.er = 0) (hwb : (withinB e.t iv.t k.beg s.m.clk) = true) (hc : (doF s.m e).2 = 0) :
  Calls Try.prog 66 #[pA b, pA g, .agg (evA e)] w (BePost w B b n mb m1 m2 m3 (pointB s k e)) := by
 have hu0 := Try.underlying61
 have hu1 := Try.underlying34
 have hu2 := Try.underlying54
 have hu3 := Try.underlying119
 have HF := Aside0.mk (show pointB s k e = ({ s with m := (doF s.m e).1, wks := updW s.wks e.wk (some { k with pt := some (ptOf e) }) }, 0) by have hok : pointOk s k e = true := (by unfold pointOk; rw [hpt, hh.1, hh.2.1, hh.2.2]; rw [hwb]; simp [ho, h0]); unfold pointB; rw [if_pos hok, if_pos hc])
 have q0 : (e.er == 0) = true := beq_iff_eq.2 (h0)
 have r0 : (e.er != 0) = false := bne_eq_false_iff_eq.2 (h0)
 have q1 : (e.op == 1) = true := beq_iff_eq.2 (ho)
 have r1 : (e.op != 1) = false := bne_eq_false_iff_eq.2 (ho)
 have hw0 := hwb
 have c0 : ((doF s.m e).2 == 0) = true := beq_iff_eq.2 (hc)
 have HC := Aside0.mk hc
 have HW := Aside0.mk hw
 have HN := Aside0.mk hn
 have HWL := Aside0.mk hwl
 have HK := Aside0.mk (And.intro hk (And.intro hp hBg))
 have HJ := Aside0.mk (show Wj w (w.alloc (.cells (evA e) 54)) B b n mb m1 m2 m3 s pf e w.heap.size g iv k.beg none from ⟨Bj.start h hB e, blk_alloc hgb _⟩)
 clear hw hn hwl hk hp hBg h hB hgb hpt hh ho h0 hwb hc
 have hcb := fun i => HJ.out.bj.be.cell i
 have hce := fun i => blk_cell HJ.out.bj.eb_ i
 have hcg := fun i => blk_cell HJ.out.gb i
 have hlb := HJ.out.bj.be.lt
 have hle := blk_lt HJ.out.bj.eb_
 have hlg := blk_lt HJ.out.gb
 go_enter Try.func66, Try.ntmps66
 go_upto_region 3 with (fail)
 refine gen_world' (fun W => Wj w W B b n mb m1 m2 m3 s pf e w.heap.size g iv k.beg none) (by exact HJ.out) fun w3 Hw3 => ?_
 have HJw3 := Aside0.mk Hw3
 clear Hw3
 clear hcb hce hcg hlb hle hlg
 have hcb := fun i => HJw3.out.bj.be.cell i
 have hce := fun i => blk_cell HJw3.out.bj.eb_ i
 have hcg := fun i => blk_cell HJw3.out.gb i
 have hlb := HJw3.out.bj.be.lt
 have hle := blk_lt HJw3.out.bj.eb_
 have hlg := blk_lt HJw3.out.gb
 go_quiet (fail)
 go_upto_region 5 with (fail)
 refine gen_world' (fun W => Wj w W B b n mb m1 m2 m3 s pf e w.heap.size g iv k.beg none) (by exact HJw3.out.drewN _) fun w4 Hw4 => ?_
 have HJw4 := Aside0.mk Hw4
 clear Hw4
 clear hcb hce hcg hlb hle hlg
 have hcb := fun i => HJw4.out.bj.be.cell i
 have hce := fun i => blk_cell HJw4.out.bj.eb_ i
 have hcg := fun i => blk_cell HJw4.out.gb i
 have hlb := HJw4.out.bj.be.lt
 have hle := blk_lt HJw4.out.bj.eb_
 have hlg := blk_lt HJw4.out.gb
 refine start_ (n := 22) (S := (fun w' => (∀ i, w'.cell? ⟨b, i, none⟩ = (beA s.nw mb m3)[i]?) ∧ (∀ i, w'.cell? ⟨w.heap.size, i, none⟩ = (evA e)[i]?) ∧ (∀ i, w'.cell? ⟨g, i, none⟩ = (wkA iv k.beg none)[i]?))) (ds := []) #[ff,ff,ff,ff,ff,ff,ff,ff,ff,ff,ff,ff,ff,ff,ff,ff,ff,ff,ff,ff,ff,ff] (by kernel_rfl) rfl rfl HJw4.out.drew.cells (fun hHeld => ?_)
 refine with_tabW bpR.tab5 bpR.bits5 (fun HT_ HW_ => ?_)
 have HJ5 := Aside0.mk HJw4.out.drew
 generalize w4.drew = w5 at HJ5 hHeld ⊢
 clear hcb hce hcg hlb hle hlg
 have hlb := HJ5.out.bj.be.lt
 have hle := blk_lt HJ5.out.bj.eb_
 have hlg := blk_lt HJ5.out.gb
 refine pure_ (i := 0) (N := (some 42)) (v := ?_) (a' := ?_) #[tt,ff,ff,ff,ff,ff,ff,ff,ff,ff,ff,ff,ff,ff,ff,ff,ff,ff,ff,ff,ff,ff] rfl rfl (any_of HT_.out (by kernel_rfl)) (fun _ _ _ h => h) (Or.inl ⟨by rfl, ?_⟩) ?_ ?_
 rotate_left
 ·intro w'
  go_simp
  with_reducible rfl
 rotate_left
 ·simp only [Act.put, sQ0, sQ1, sQ2, i64_w]
  rfl
 refine pure_ (i := 1) (N := (some 43)) (v := ?_) (a' := ?_) #[tt,tt,ff,ff,ff,ff,ff,ff,ff,ff,ff,ff,ff,ff,ff,ff,ff,ff,ff,ff,ff,ff] rfl rfl (any_of HT_.out (by kernel_rfl)) (fun _ _ _ h => h) (Or.inl ⟨by rfl, ?_⟩) ?_ ?_
 rotate_left
 ·intro w'
  go_simp
  with_reducible rfl
 rotate_left
 ·simp only [Act.put, sQ0, sQ1, sQ2, i64_w]
  rfl
 refine pure_ (i := 2) (N := (some 44)) (v := ?_) (a' := ?_) #[tt,tt,tt,ff,ff,ff,ff,ff,ff,ff,ff,ff,ff,ff,ff,ff,ff,ff,ff,ff,ff,ff] rfl rfl (any_of HT_.out (by kernel_rfl)) (fun _ _ _ h => h) (Or.inl ⟨by rfl, ?_⟩) ?_ ?_
 rotate_left
 ·intro w'
  go_simp
  with_reducible rfl
 rotate_left
 ·simp only [Act.put, sQ0, sQ1, sQ2, i64_w]
  rfl
 refine pure_ (i := 4) (N := (some 46)) (v := ?_) (a' := ?_) #[tt,tt,tt,ff,tt,ff,ff,ff,ff,ff,ff,ff,ff,ff,ff,ff,ff,ff,ff,ff,ff,ff] rfl rfl (any_of HT_.out (by kernel_rfl)) (fun _ _ _ h => h) (Or.inl ⟨by rfl, ?_⟩) ?_ ?_
 rotate_left
 ·intro w'
  go_simp
  with_reducible rfl
 rotate_left
 ·simp only [Act.put, sQ0, sQ1, sQ2, i64_w]
  rfl
 refine pure_ (i := 5) (N := (some 47)) (v := ?_) (a' := ?_) #[tt,tt,tt,ff,tt,tt,ff,ff,ff,ff,ff,ff,ff,ff,ff,ff,ff,ff,ff,ff,ff,ff] rfl rfl (any_of HT_.out (by kernel_rfl)) (fun _ _ _ h => h) (Or.inl ⟨by rfl, ?_⟩) ?_ ?_
 rotate_left
 ·intro w'
  go_simp
  with_reducible rfl
 rotate_left
 ·simp only [Act.put, sQ0, sQ1, sQ2, i64_w]
  rfl
 refine pure_ (i := 6) (N := (some 48)) (v := ?_) (a' := ?_) #[tt,tt,tt,ff,tt,tt,tt,ff,ff,ff,ff,ff,ff,ff,ff,ff,ff,ff,ff,ff,ff,ff] rfl rfl (any_of HT_.out (by kernel_rfl)) (fun _ _ _ h => h) (Or.inl ⟨by rfl, ?_⟩) ?_ ?_
 rotate_left
 ·intro w'
  go_simp
  with_reducible rfl
 rotate_left
 ·simp only [Act.put, sQ0, sQ1, sQ2, i64_w]
  rfl
 refine pure_ (i := 7) (N := (some 49)) (v := ?_) (a' := ?_) #[tt,tt,tt,ff,tt,tt,tt,tt,ff,ff,ff,ff,ff,ff,ff,ff,ff,ff,ff,ff,ff,ff] rfl rfl (any_of HT_.out (by kernel_rfl)) (fun _ _ _ h => h) (Or.inl ⟨by rfl, ?_⟩) ?_ ?_
 rotate_left
 ·intro w'
  go_simp
  with_reducible rfl
 rotate_left
 ·simp only [Act.put, sQ0, sQ1, sQ2, i64_w]
  rfl
 refine pure_ (i := 9) (N := (some 51)) (v := ?_) (a' := ?_) #[tt,tt,tt,ff,tt,tt,tt,tt,ff,tt,ff,ff,ff,ff,ff,ff,ff,ff,ff,ff,ff,ff] rfl rfl (any_of HT_.out (by kernel_rfl)) (fun _ _ _ h => h) (Or.inl ⟨by rfl, ?_⟩) ?_ ?_
 rotate_left
 ·intro w'
  go_simp
  with_reducible rfl
 rotate_left
 ·simp only [Act.put, sQ0, sQ1, sQ2, i64_w]
  rfl
 refine pure_ (i := 10) (N := (some 52)) (v := ?_) (a' := ?_) #[tt,tt,tt,ff,tt,tt,tt,tt,ff,tt,tt,ff,ff,ff,ff,ff,ff,ff,ff,ff,ff,ff] rfl rfl (any_of HT_.out (by kernel_rfl)) (fun _ _ _ h => h) (Or.inl ⟨by rfl, ?_⟩) ?_ ?_
 rotate_left
 ·intro w'
  go_simp
  with_reducible rfl
 rotate_left
 ·simp only [Act.put, sQ0, sQ1, sQ2, i64_w]
  rfl
 refine pure_ (i := 11) (N := (some 53)) (v := ?_) (a' := ?_) #[tt,tt,tt,ff,tt,tt,tt,tt,ff,tt,tt,tt,ff,ff,ff,ff,ff,ff,ff,ff,ff,ff] rfl rfl (any_of HT_.out (by kernel_rfl)) (fun _ _ _ h => h) (Or.inl ⟨by rfl, ?_⟩) ?_ ?_
 rotate_left
 ·intro w'
  go_simp
  with_reducible rfl
 rotate_left
 ·simp only [Act.put, sQ0, sQ1, sQ2, i64_w]
  rfl
 refine pure_ (i := 13) (N := (some 55)) (v := ?_) (a' := ?_) #[tt,tt,tt,ff,tt,tt,tt,tt,ff,tt,tt,tt,ff,tt,ff,ff,ff,ff,ff,ff,ff,ff] rfl rfl (any_of HT_.out (by kernel_rfl)) (fun _ _ _ h => h) (Or.inl ⟨by rfl, ?_⟩) ?_ ?_
 rotate_left
 ·intro w'
  go_simp
  with_reducible rfl
 rotate_left
 ·simp only [Act.put, sQ0, sQ1, sQ2, i64_w]
  rfl
 refine pure_ (i := 14) (N := (some 56)) (v := ?_) (a' := ?_) #[tt,tt,tt,ff,tt,tt,tt,tt,ff,tt,tt,tt,ff,tt,tt,ff,ff,ff,ff,ff,ff,ff] rfl rfl (any_of HT_.out (by kernel_rfl)) (fun _ _ _ h => h) (Or.inl ⟨by rfl, ?_⟩) ?_ ?_
 rotate_left
 ·intro w'
  go_simp
  with_reducible rfl
 rotate_left
 ·simp only [Act.put, sQ0, sQ1, sQ2, i64_w]
  rfl
 refine pure_ (i := 15) (N := (some 57)) (v := ?_) (a' := ?_) #[tt,tt,tt,ff,tt,tt,tt,tt,ff,tt,tt,tt,ff,tt,tt,tt,ff,ff,ff,ff,ff,ff] rfl rfl (any_of HT_.out (by kernel_rfl)) (fun _ _ _ h => h) (Or.inl ⟨by rfl, ?_⟩) ?_ ?_
 rotate_left
 ·intro w'
  go_simp
  with_reducible rfl
 rotate_left
 ·simp only [Act.put, sQ0, sQ1, sQ2, i64_w]
  rfl
 refine take_ (i := 3) (N := (some 45)) (v := ?_) (a' := ?_) #[tt,tt,tt,tt,tt,tt,tt,tt,ff,tt,tt,tt,ff,tt,tt,tt,ff,ff,ff,ff,ff,ff] rfl rfl (take_ofW HT_.out HW_.out (by kernel_rfl)) (fun _ _ _ h => h) (Or.inl ⟨by rfl, ?_⟩) hHeld ?_ ?_
 rotate_left
 ·rintro w' ⟨s0, s1, s2⟩
  go_simp
  with_reducible rfl
 rotate_left
 ·simp only [Act.put, sQ0, sQ1, sQ2, i64_w]
  rfl
 refine take_ (i := 8) (N := (some 50)) (v := ?_) (a' := ?_) #[tt,tt,tt,tt,tt,tt,tt,tt,tt,tt,tt,tt,ff,tt,tt,tt,ff,ff,ff,ff,ff,ff] rfl rfl (take_ofW HT_.out HW_.out (by kernel_rfl)) (fun _ _ _ h => h) (Or.inl ⟨by rfl, ?_⟩) hHeld ?_ ?_
 rotate_left
 ·rintro w' ⟨s0, s1, s2⟩
  go_simp
  with_reducible rfl
 rotate_left
 ·simp only [Act.put, sQ0, sQ1, sQ2, i64_w]
  rfl
 refine take_ (i := 12) (N := (some 54)) (v := ?_) (a' := ?_) #[tt,tt,tt,tt,tt,tt,tt,tt,tt,tt,tt,tt,tt,tt,tt,tt,ff,ff,ff,ff,ff,ff] rfl rfl (take_ofW HT_.out HW_.out (by kernel_rfl)) (fun _ _ _ h => h) (Or.inl ⟨by rfl, ?_⟩) hHeld ?_ ?_
 rotate_left
 ·rintro w' ⟨s0, s1, s2⟩
  go_simp
  with_reducible rfl
 rotate_left
 ·simp only [Act.put, sQ0, sQ1, sQ2, i64_w]
  rfl
 refine take_ (i := 16) (N := (some 58)) (v := ?_) (a' := ?_) #[tt,tt,tt,tt,tt,tt,tt,tt,tt,tt,tt,tt,tt,tt,tt,tt,tt,ff,ff,ff,ff,ff] rfl rfl (take_ofW HT_.out HW_.out (by kernel_rfl)) (fun _ _ _ h => h) (Or.inl ⟨by rfl, ?_⟩) hHeld ?_ ?_
 rotate_left
 ·rintro w' ⟨s0, s1, s2⟩
  go_simp
  with_reducible rfl
 rotate_left
 ·simp only [Act.put, sQ0, sQ1, sQ2, i64_w]
  rfl
 refine one_ (i := 17) (N := (some 59)) #[tt,tt,tt,tt,tt,tt,tt,tt,tt,tt,tt,tt,tt,tt,tt,tt,tt,tt,ff,ff,ff,ff] rfl rfl (one_of HT_.out (by kernel_rfl)) (by decide) (fun K hK => ?_)
 refine call_ (f := 41) #[pA mb] (by rfl) rfl (by go_simp <;> rfl) ?_
 refine (model_clock HJ5.out.bj.be.md).mono ?_
 rintro r w6 ⟨rfl, rfl⟩
 refine ⟨_, rfl, ?_⟩
 refine hK.out _ _ HJ5.out.cells (fun hHeld => ?_)
 clear hK K
 refine norm_ (a' := ?_) ?_ ?_
 rotate_left
 ·show Act.put _ (some 59) _ = _
  simp only [Act.put, sQ0, sQ1, sQ2, i64_w]
  rfl
 refine one_ (i := 18) (N := (some 60)) #[tt,tt,tt,tt,tt,tt,tt,tt,tt,tt,tt,tt,tt,tt,tt,tt,tt,tt,tt,ff,ff,ff] rfl rfl (one_of HT_.out (by kernel_rfl)) (by decide) (fun K hK => ?_)
 refine call_ (f := 95) #[.int .i64 e.t, .int .i64 iv.t, .int .i64 k.beg, .int .i64 s.m.clk] (by rfl) rfl (by go_simp <;> rfl) ?_
 refine (within_at _ _ _ _ w5).mono ?_
 rintro r w6 ⟨rfl, rfl⟩
 refine ⟨_, rfl, ?_⟩
 refine hK.out _ _ HJ5.out.cells (fun hHeld => ?_)
 clear hK K
 refine norm_ (a' := ?_) ?_ ?_
 rotate_left
 ·show Act.put _ (some 60) _ = _
  simp only [Act.put, sQ0, sQ1, sQ2, i64_w]
  rfl
 refine pure_ (i := 19) (N := (some 61)) (v := ?_) (a' := ?_) #[tt,tt,tt,tt,tt,tt,tt,tt,tt,tt,tt,tt,tt,tt,tt,tt,tt,tt,tt,tt,ff,ff] rfl rfl (any_of HT_.out (by kernel_rfl)) (fun _ _ _ h => h) (Or.inl ⟨by rfl, ?_⟩) ?_ ?_
 rotate_left
 ·intro w'
  go_simp
  with_reducible rfl
 rotate_left
 ·simp only [Act.put, sQ0, sQ1, sQ2, i64_w]
  rfl
 refine pure_ (i := 20) (N := (some 62)) (v := ?_) (a' := ?_) #[tt,tt,tt,tt,tt,tt,tt,tt,tt,tt,tt,tt,tt,tt,tt,tt,tt,tt,tt,tt,tt,ff] rfl rfl (any_of HT_.out (by kernel_rfl)) (fun _ _ _ h => h) (Or.inl ⟨by rfl, ?_⟩) ?_ ?_
 rotate_left
 ·intro w'
  go_simp
  with_reducible rfl
 rotate_left
 ·simp only [Act.put, sQ0, sQ1, sQ2, i64_w]
  rfl
 refine pure_ (i := 21) (N := (some 41)) (v := ?_) (a' := ?_) #[tt,tt,tt,tt,tt,tt,tt,tt,tt,tt,tt,tt,tt,tt,tt,tt,tt,tt,tt,tt,tt,tt] rfl rfl (any_of HT_.out (by kernel_rfl)) (fun _ _ _ h => h) (Or.inl ⟨by rfl, ?_⟩) ?_ ?_
 rotate_left
 ·intro w'
  go_simp
  with_reducible rfl
 rotate_left
 ·simp only [Act.put, sQ0, sQ1, sQ2, i64_w]
  rfl
 refine done_ (done_of HT_.out (by kernel_rfl)) ?_
 clear hHeld
 have hcb := fun i => HJ5.out.bj.be.cell i
 have hce := fun i => blk_cell HJ5.out.bj.eb_ i
 have hcg := fun i => blk_cell HJ5.out.gb i
 go_upto_region 7 with (fail)
 refine gen_world' (fun W => Wj w W B b n mb m1 m2 m3 s pf e w.heap.size g iv k.beg none) (by exact HJ5.out) fun w6 Hw6 => ?_
 have HJw6 := Aside0.mk Hw6
 clear Hw6
 clear hcb hce hcg hlb hle hlg
 have hcb := fun i => HJw6.out.bj.be.cell i
 have hce := fun i => blk_cell HJw6.out.bj.eb_ i
 have hcg := fun i => blk_cell HJw6.out.gb i
 have hlb := HJw6.out.bj.be.lt
 have hle := blk_lt HJw6.out.bj.eb_
 have hlg := blk_lt HJw6.out.gb
 refine start_ (n := 7) (S := (fun w' => (∀ i, w'.cell? ⟨b, i, none⟩ = (beA s.nw mb m3)[i]?) ∧ (∀ i, w'.cell? ⟨w.heap.size, i, none⟩ = (evA e)[i]?) ∧ (∀ i, w'.cell? ⟨g, i, none⟩ = (wkA iv k.beg none)[i]?))) (ds := [5]) #[ff,ff,ff,ff,ff,ff,ff] (by kernel_rfl) rfl rfl HJw6.out.drew.cells (fun hHeld => ?_)
 refine with_tabW bpR.tab7 bpR.bits7 (fun HT_ HW_ => ?_)
 have HJ7 := Aside0.mk HJw6.out.drew
 generalize w6.drew = w7 at HJ7 hHeld ⊢
 clear hcb hce hcg hlb hle hlg
 have hlb := HJ7.out.bj.be.lt
 have hle := blk_lt HJ7.out.bj.eb_
 have hlg := blk_lt HJ7.out.gb
 refine pure_ (i := 0) (N := (some 63)) (v := ?_) (a' := ?_) #[tt,ff,ff,ff,ff,ff,ff] rfl rfl (any_of HT_.out (by kernel_rfl)) (fun _ _ _ h => h) (Or.inl ⟨by rfl, ?_⟩) ?_ ?_
 rotate_left
 ·intro w'
  go_simp
  with_reducible rfl
 rotate_left
 ·simp only [Act.put, sQ0, sQ1, sQ2, i64_w]
  rfl
 refine pure_ (i := 1) (N := (some 64)) (v := ?_) (a' := ?_) #[tt,tt,ff,ff,ff,ff,ff] rfl rfl (any_of HT_.out (by kernel_rfl)) (fun _ _ _ h => h) (Or.inl ⟨by rfl, ?_⟩) ?_ ?_
 rotate_left
 ·intro w'
  go_simp
  with_reducible rfl
 rotate_left
 ·simp only [Act.put, sQ0, sQ1, sQ2, i64_w]
  rfl
 refine pure_ (i := 2) (N := (some 65)) (v := ?_) (a' := ?_) #[tt,tt,tt,ff,ff,ff,ff] rfl rfl (any_of HT_.out (by kernel_rfl)) (fun _ _ _ h => h) (Or.inl ⟨by rfl, ?_⟩) ?_ ?_
 rotate_left
 ·intro w'
  go_simp
  with_reducible rfl
 rotate_left
 ·simp only [Act.put, sQ0, sQ1, sQ2, i64_w]
  rfl
 refine take_ (i := 3) (N := (some 66)) (v := ?_) (a' := ?_) #[tt,tt,tt,tt,ff,ff,ff] rfl rfl (take_ofW HT_.out HW_.out (by kernel_rfl)) (fun _ _ _ h => h) (Or.inl ⟨by rfl, ?_⟩) hHeld ?_ ?_
 rotate_left
 ·rintro w' ⟨s0, s1, s2⟩
  go_simp
  with_reducible rfl
 rotate_left
 ·simp only [Act.put, sQ0, sQ1, sQ2, i64_w]
  rfl
 refine take_ (i := 4) (N := (some 67)) (v := ?_) (a' := ?_) #[tt,tt,tt,tt,tt,ff,ff] rfl rfl (take_ofW HT_.out HW_.out (by kernel_rfl)) (fun _ _ _ h => h) (Or.inl ⟨by rfl, ?_⟩) hHeld ?_ ?_
 rotate_left
 ·rintro w' ⟨s0, s1, s2⟩
  go_simp
  with_reducible rfl
 rotate_left
 ·simp only [Act.put, sQ0, sQ1, sQ2, i64_w]
  rfl
 refine last_ (i := 5) (N := (some 68)) #[tt,tt,tt,tt,tt,tt,ff] rfl rfl (one_of HT_.out (by kernel_rfl)) (by decide) (fun K hK => ?_)
 refine call_ (f := 43) #[pA mb, .agg (evA e)] (by rfl) rfl (by go_simp <;> rfl) ?_
 refine (do_any e HW.out HN.out HWL.out HJ7.out.bj.be.md).mono ?_
 rintro r w8 ⟨rfl, hm, hf⟩
 refine ⟨_, rfl, ?_⟩
 have HD := Aside0.mk (HJ7.out.model hm (by omega) hf)
 clear hm hf
 refine hK.out _ _ ?_
 clear hK K
 refine norm_ (a' := ?_) ?_ ?_
 rotate_left
 ·show Act.put _ (some 68) _ = _
  simp only [Act.put, sQ0, sQ1, sQ2, i64_w]
  rfl
 refine pure_ (i := 6) (N := (some 8)) (v := ?_) (a' := ?_) #[tt,tt,tt,tt,tt,tt,tt] rfl rfl (any_of HT_.out (by kernel_rfl)) (fun _ _ _ h => h) (Or.inl ⟨by rfl, ?_⟩) ?_ ?_
 rotate_left
 ·intro w'
  go_simp
  with_reducible rfl
 rotate_left
 ·simp only [Act.put, sQ0, sQ1, sQ2, i64_w]
  rfl
 refine done_ (done_of HT_.out (by kernel_rfl)) ?_
 clear hlb hle hlg
 have hcb := fun i => HD.out.bj.be.cell i
 have hce := fun i => blk_cell HD.out.bj.eb_ i
 have hcg := fun i => blk_cell HD.out.gb i
 have hlb := HD.out.bj.be.lt
 have hle := blk_lt HD.out.bj.eb_
 have hlg := blk_lt HD.out.gb
 have hfg := fun i => blk_frozen HD.out.gb i
 go_wp2
 go_ret
 have hE := do_end HD.out HK.out.1 HK.out.2.1 HK.out.2.2
 exact BePost.of HF.out (by first | exact HC.out | rfl) (hE.1.up (by omega)) hE.2
theorem bpoint_m1_fail {w : World} {B b n mb m1 m2 m3 g : Nat} {s : Be} {pf : Int → Option Nat} {k : Wk} (e iv : Ev) (hw : (Lit.int .i64 e.hn).wf = true ∧ (Lit.int .i64 e.hg).wf = true ∧ (Lit.int .i64 e.nn).wf = true ∧ (Lit.int .i64 e.ng).wf = true) (hn : n + 1 ≤ 1000000) (hwl : ∀ x, (Lit.int .i64 ((s.m.lst x).getD 0)).wf = true) (h : BeIs w B b n s mb m1 m2 m3 pf) (hB : B ≤ w.heap.size) (hk : s.wks e.wk = some k) (hp : pf e.wk = some g) (hgb : w.heap[g]? = some (.cells (wkA iv k.beg none) 119 (0, 0))) (hBg : B ≤ g) (hpt : k.pt = none) (hh : k.hn = iv.hn ∧ k.hg = iv.hg ∧ k.t = iv.t) (ho : e.op = 1) (h0 : e.er = 0) (hwb : (withinB e.t iv.t k.beg s.m.clk) = true) (hc : ¬ (doF s.m e).2 = 0) :
  Calls Try.prog 66 #[pA b, pA g, .agg (evA e)] w (BePost w B b n mb m1 m2 m3 (pointB s k e)) := by
 have hu0 := Try.underlying61
 have hu1 := Try.underlying34
 have hu2 := Try.underlying54
 have hu3 := Try.underlying119
 have HF := Aside0.mk (show pointB s k e = ({ s with m := (doF s.m e).1 }, (doF s.m e).2) by have hok : pointOk s k e = true := (by unfold pointOk; rw [hpt, hh.1, hh.2.1, hh.2.2]; rw [hwb]; simp [ho, h0]); unfold pointB; rw [if_pos hok, if_neg hc])
 have q0 : (e.er == 0) = true := beq_iff_eq.2 (h0)
 have r0 : (e.er != 0) = false := bne_eq_false_iff_eq.2 (h0)
 have q1 : (e.op == 1) = true := beq_iff_eq.2 (ho)
 have r1 : (e.op != 1) = false := bne_eq_false_iff_eq.2 (ho)
 have hw0 := hwb
 have c0 : ((doF s.m e).2 == 0) = false := beq_eq_false_iff_ne.2 (hc)
 have HW := Aside0.mk hw
 have HN := Aside0.mk hn
 have HWL := Aside0.mk hwl
 have HK := Aside0.mk (And.intro hk (And.intro hp hBg))
 have HJ := Aside0.mk (show Wj w (w.alloc (.cells (evA e) 54)) B b n mb m1 m2 m3 s pf e w.heap.size g iv k.beg none from ⟨Bj.start h hB e, blk_alloc hgb _⟩)
 clear hw hn hwl hk hp hBg h hB hgb hpt hh ho h0 hwb hc
 have hcb := fun i => HJ.out.bj.be.cell i
 have hce := fun i => blk_cell HJ.out.bj.eb_ i
 have hcg := fun i => blk_cell HJ.out.gb i
 have hlb := HJ.out.bj.be.lt
 have hle := blk_lt HJ.out.bj.eb_
 have hlg := blk_lt HJ.out.gb
 go_enter Try.func66, Try.ntmps66
 go_upto_region 3 with (fail)
 refine gen_world' (fun W => Wj w W B b n mb m1 m2 m3 s pf e w.heap.size g iv k.beg none) (by exact HJ.out) fun w3 Hw3 => ?_
 have HJw3 := Aside0.mk Hw3
 clear Hw3
 clear hcb hce hcg hlb hle hlg
 have hcb := fun i => HJw3.out.bj.be.cell i
 have hce := fun i => blk_cell HJw3.out.bj.eb_ i
 have hcg := fun i => blk_cell HJw3.out.gb i
 have hlb := HJw3.out.bj.be.lt
 have hle := blk_lt HJw3.out.bj.eb_
 have hlg := blk_lt HJw3.out.gb
 go_quiet (fail)
 go_upto_region 5 with (fail)
 refine gen_world' (fun W => Wj w W B b n mb m1 m2 m3 s pf e w.heap.size g iv k.beg none) (by exact HJw3.out.drewN _) fun w4 Hw4 => ?_
 have HJw4 := Aside0.mk Hw4
 clear Hw4
 clear hcb hce hcg hlb hle hlg
 have hcb := fun i => HJw4.out.bj.be.cell i
 have hce := fun i => blk_cell HJw4.out.bj.eb_ i
 have hcg := fun i => blk_cell HJw4.out.gb i
 have hlb := HJw4.out.bj.be.lt
 have hle := blk_lt HJw4.out.bj.eb_
 have hlg := blk_lt HJw4.out.gb
 refine start_ (n := 22) (S := (fun w' => (∀ i, w'.cell? ⟨b, i, none⟩ = (beA s.nw mb m3)[i]?) ∧ (∀ i, w'.cell? ⟨w.heap.size, i, none⟩ = (evA e)[i]?) ∧ (∀ i, w'.cell? ⟨g, i, none⟩ = (wkA iv k.beg none)[i]?))) (ds := []) #[ff,ff,ff,ff,ff,ff,ff,ff,ff,ff,ff,ff,ff,ff,ff,ff,ff,ff,ff,ff,ff,ff] (by kernel_rfl) rfl rfl HJw4.out.drew.cells (fun hHeld => ?_)
 refine with_tabW bpR.tab5 bpR.bits5 (fun HT_ HW_ => ?_)
 have HJ5 := Aside0.mk HJw4.out.drew
 generalize w4.drew = w5 at HJ5 hHeld ⊢
 clear hcb hce hcg hlb hle hlg
 have hlb := HJ5.out.bj.be.lt
 have hle := blk_lt HJ5.out.bj.eb_
 have hlg := blk_lt HJ5.out.gb
 refine pure_ (i := 0) (N := (some 42)) (v := ?_) (a' := ?_) #[tt,ff,ff,ff,ff,ff,ff,ff,ff,ff,ff,ff,ff,ff,ff,ff,ff,ff,ff,ff,ff,ff] rfl rfl (any_of HT_.out (by kernel_rfl)) (fun _ _ _ h => h) (Or.inl ⟨by rfl, ?_⟩) ?_ ?_
 rotate_left
 ·intro w'
  go_simp
  with_reducible rfl
 rotate_left
 ·simp only [Act.put, sQ0, sQ1, sQ2, i64_w]
  rfl
 refine pure_ (i := 1) (N := (some 43)) (v := ?_) (a' := ?_) #[tt,tt,ff,ff,ff,ff,ff,ff,ff,ff,ff,ff,ff,ff,ff,ff,ff,ff,ff,ff,ff,ff] rfl rfl (any_of HT_.out (by kernel_rfl)) (fun _ _ _ h => h) (Or.inl ⟨by rfl, ?_⟩) ?_ ?_
 rotate_left
 ·intro w'
  go_simp
  with_reducible rfl
 rotate_left
 ·simp only [Act.put, sQ0, sQ1, sQ2, i64_w]
  rfl
 refine pure_ (i := 2) (N := (some 44)) (v := ?_) (a' := ?_) #[tt,tt,tt,ff,ff,ff,ff,ff,ff,ff,ff,ff,ff,ff,ff,ff,ff,ff,ff,ff,ff,ff] rfl rfl (any_of HT_.out (by kernel_rfl)) (fun _ _ _ h => h) (Or.inl ⟨by rfl, ?_⟩) ?_ ?_
 rotate_left
 ·intro w'
  go_simp
  with_reducible rfl
 rotate_left
 ·simp only [Act.put, sQ0, sQ1, sQ2, i64_w]
  rfl
 refine pure_ (i := 4) (N := (some 46)) (v := ?_) (a' := ?_) #[tt,tt,tt,ff,tt,ff,ff,ff,ff,ff,ff,ff,ff,ff,ff,ff,ff,ff,ff,ff,ff,ff] rfl rfl (any_of HT_.out (by kernel_rfl)) (fun _ _ _ h => h) (Or.inl ⟨by rfl, ?_⟩) ?_ ?_
 rotate_left
 ·intro w'
  go_simp
  with_reducible rfl
 rotate_left
 ·simp only [Act.put, sQ0, sQ1, sQ2, i64_w]
  rfl
 refine pure_ (i := 5) (N := (some 47)) (v := ?_) (a' := ?_) #[tt,tt,tt,ff,tt,tt,ff,ff,ff,ff,ff,ff,ff,ff,ff,ff,ff,ff,ff,ff,ff,ff] rfl rfl (any_of HT_.out (by kernel_rfl)) (fun _ _ _ h => h) (Or.inl ⟨by rfl, ?_⟩) ?_ ?_
 rotate_left
 ·intro w'
  go_simp
  with_reducible rfl
 rotate_left
 ·simp only [Act.put, sQ0, sQ1, sQ2, i64_w]
  rfl
 refine pure_ (i := 6) (N := (some 48)) (v := ?_) (a' := ?_) #[tt,tt,tt,ff,tt,tt,tt,ff,ff,ff,ff,ff,ff,ff,ff,ff,ff,ff,ff,ff,ff,ff] rfl rfl (any_of HT_.out (by kernel_rfl)) (fun _ _ _ h => h) (Or.inl ⟨by rfl, ?_⟩) ?_ ?_
 rotate_left
 ·intro w'
  go_simp
  with_reducible rfl
 rotate_left
 ·simp only [Act.put, sQ0, sQ1, sQ2, i64_w]
  rfl
 refine pure_ (i := 7) (N := (some 49)) (v := ?_) (a' := ?_) #[tt,tt,tt,ff,tt,tt,tt,tt,ff,ff,ff,ff,ff,ff,ff,ff,ff,ff,ff,ff,ff,ff] rfl rfl (any_of HT_.out (by kernel_rfl)) (fun _ _ _ h => h) (Or.inl ⟨by rfl, ?_⟩) ?_ ?_
 rotate_left
 ·intro w'
  go_simp
  with_reducible rfl
 rotate_left
 ·simp only [Act.put, sQ0, sQ1, sQ2, i64_w]
  rfl
 refine pure_ (i := 9) (N := (some 51)) (v := ?_) (a' := ?_) #[tt,tt,tt,ff,tt,tt,tt,tt,ff,tt,ff,ff,ff,ff,ff,ff,ff,ff,ff,ff,ff,ff] rfl rfl (any_of HT_.out (by kernel_rfl)) (fun _ _ _ h => h) (Or.inl ⟨by rfl, ?_⟩) ?_ ?_
 rotate_left
 ·intro w'
  go_simp
  with_reducible rfl
 rotate_left
 ·simp only [Act.put, sQ0, sQ1, sQ2, i64_w]
  rfl
 refine pure_ (i := 10) (N := (some 52)) (v := ?_) (a' := ?_) #[tt,tt,tt,ff,tt,tt,tt,tt,ff,tt,tt,ff,ff,ff,ff,ff,ff,ff,ff,ff,ff,ff] rfl rfl (any_of HT_.out (by kernel_rfl)) (fun _ _ _ h => h) (Or.inl ⟨by rfl, ?_⟩) ?_ ?_
 rotate_left
 ·intro w'
  go_simp
  with_reducible rfl
 rotate_left
 ·simp only [Act.put, sQ0, sQ1, sQ2, i64_w]
  rfl
 refine pure_ (i := 11) (N := (some 53)) (v := ?_) (a' := ?_) #[tt,tt,tt,ff,tt,tt,tt,tt,ff,tt,tt,tt,ff,ff,ff,ff,ff,ff,ff,ff,ff,ff] rfl rfl (any_of HT_.out (by kernel_rfl)) (fun _ _ _ h => h) (Or.inl ⟨by rfl, ?_⟩) ?_ ?_
 rotate_left
 ·intro w'
  go_simp
  with_reducible rfl
 rotate_left
 ·simp only [Act.put, sQ0, sQ1, sQ2, i64_w]
  rfl
 refine pure_ (i := 13) (N := (some 55)) (v := ?_) (a' := ?_) #[tt,tt,tt,ff,tt,tt,tt,tt,ff,tt,tt,tt,ff,tt,ff,ff,ff,ff,ff,ff,ff,ff] rfl rfl (any_of HT_.out (by kernel_rfl)) (fun _ _ _ h => h) (Or.inl ⟨by rfl, ?_⟩) ?_ ?_
 rotate_left
 ·intro w'
  go_simp
  with_reducible rfl
 rotate_left
 ·simp only [Act.put, sQ0, sQ1, sQ2, i64_w]
  rfl
 refine pure_ (i := 14) (N := (some 56)) (v := ?_) (a' := ?_) #[tt,tt,tt,ff,tt,tt,tt,tt,ff,tt,tt,tt,ff,tt,tt,ff,ff,ff,ff,ff,ff,ff] rfl rfl (any_of HT_.out (by kernel_rfl)) (fun _ _ _ h => h) (Or.inl ⟨by rfl, ?_⟩) ?_ ?_
 rotate_left
 ·intro w'
  go_simp
  with_reducible rfl
 rotate_left
 ·simp only [Act.put, sQ0, sQ1, sQ2, i64_w]
  rfl
 refine pure_ (i := 15) (N := (some 57)) (v := ?_) (a' := ?_) #[tt,tt,tt,ff,tt,tt,tt,tt,ff,tt,tt,tt,ff,tt,tt,tt,ff,ff,ff,ff,ff,ff] rfl rfl (any_of HT_.out (by kernel_rfl)) (fun _ _ _ h => h) (Or.inl ⟨by rfl, ?_⟩) ?_ ?_
 rotate_left
 ·intro w'
  go_simp
  with_reducible rfl
 rotate_left
 ·simp only [Act.put, sQ0, sQ1, sQ2, i64_w]
  rfl
 refine take_ (i := 3) (N := (some 45)) (v := ?_) (a' := ?_) #[tt,tt,tt,tt,tt,tt,tt,tt,ff,tt,tt,tt,ff,tt,tt,tt,ff,ff,ff,ff,ff,ff] rfl rfl (take_ofW HT_.out HW_.out (by kernel_rfl)) (fun _ _ _ h => h) (Or.inl ⟨by rfl, ?_⟩) hHeld ?_ ?_
 rotate_left
 ·rintro w' ⟨s0, s1, s2⟩
  go_simp
  with_reducible rfl
 rotate_left
 ·simp only [Act.put, sQ0, sQ1, sQ2, i64_w]
  rfl
 refine take_ (i := 8) (N := (some 50)) (v := ?_) (a' := ?_) #[tt,tt,tt,tt,tt,tt,tt,tt,tt,tt,tt,tt,ff,tt,tt,tt,ff,ff,ff,ff,ff,ff] rfl rfl (take_ofW HT_.out HW_.out (by kernel_rfl)) (fun _ _ _ h => h) (Or.inl ⟨by rfl, ?_⟩) hHeld ?_ ?_
 rotate_left
 ·rintro w' ⟨s0, s1, s2⟩
  go_simp
  with_reducible rfl
 rotate_left
 ·simp only [Act.put, sQ0, sQ1, sQ2, i64_w]
  rfl
 refine take_ (i := 12) (N := (some 54)) (v := ?_) (a' := ?_) #[tt,tt,tt,tt,tt,tt,tt,tt,tt,tt,tt,tt,tt,tt,tt,tt,ff,ff,ff,ff,ff,ff] rfl rfl (take_ofW HT_.out HW_.out (by kernel_rfl)) (fun _ _ _ h => h) (Or.inl ⟨by rfl, ?_⟩) hHeld ?_ ?_
 rotate_left
 ·rintro w' ⟨s0, s1, s2⟩
  go_simp
  with_reducible rfl
 rotate_left
 ·simp only [Act.put, sQ0, sQ1, sQ2, i64_w]
  rfl
 refine take_ (i := 16) (N := (some 58)) (v := ?_) (a' := ?_) #[tt,tt,tt,tt,tt,tt,tt,tt,tt,tt,tt,tt,tt,tt,tt,tt,tt,ff,ff,ff,ff,ff] rfl rfl (take_ofW HT_.out HW_.out (by kernel_rfl)) (fun _ _ _ h => h) (Or.inl ⟨by rfl, ?_⟩) hHeld ?_ ?_
 rotate_left
 ·rintro w' ⟨s0, s1, s2⟩
  go_simp
  with_reducible rfl
 rotate_left
 ·simp only [Act.put, sQ0, sQ1, sQ2, i64_w]
  rfl
 refine one_ (i := 17) (N := (some 59)) #[tt,tt,tt,tt,tt,tt,tt,tt,tt,tt,tt,tt,tt,tt,tt,tt,tt,tt,ff,ff,ff,ff] rfl rfl (one_of HT_.out (by kernel_rfl)) (by decide) (fun K hK => ?_)
 refine call_ (f := 41) #[pA mb] (by rfl) rfl (by go_simp <;> rfl) ?_
 refine (model_clock HJ5.out.bj.be.md).mono ?_
 rintro r w6 ⟨rfl, rfl⟩
 refine ⟨_, rfl, ?_⟩
 refine hK.out _ _ HJ5.out.cells (fun hHeld => ?_)
 clear hK K
 refine norm_ (a' := ?_) ?_ ?_
 rotate_left
 ·show Act.put _ (some 59) _ = _
  simp only [Act.put, sQ0, sQ1, sQ2, i64_w]
  rfl
 refine one_ (i := 18) (N := (some 60)) #[tt,tt,tt,tt,tt,tt,tt,tt,tt,tt,tt,tt,tt,tt,tt,tt,tt,tt,tt,ff,ff,ff] rfl rfl (one_of HT_.out (by kernel_rfl)) (by decide) (fun K hK => ?_)
 refine call_ (f := 95) #[.int .i64 e.t, .int .i64 iv.t, .int .i64 k.beg, .int .i64 s.m.clk] (by rfl) rfl (by go_simp <;> rfl) ?_
 refine (within_at _ _ _ _ w5).mono ?_
 rintro r w6 ⟨rfl, rfl⟩
 refine ⟨_, rfl, ?_⟩
 refine hK.out _ _ HJ5.out.cells (fun hHeld => ?_)
 clear hK K
 refine norm_ (a' := ?_) ?_ ?_
 rotate_left
 ·show Act.put _ (some 60) _ = _
  simp only [Act.put, sQ0, sQ1, sQ2, i64_w]
  rfl
 refine pure_ (i := 19) (N := (some 61)) (v := ?_) (a' := ?_) #[tt,tt,tt,tt,tt,tt,tt,tt,tt,tt,tt,tt,tt,tt,tt,tt,tt,tt,tt,tt,ff,ff] rfl rfl (any_of HT_.out (by kernel_rfl)) (fun _ _ _ h => h) (Or.inl ⟨by rfl, ?_⟩) ?_ ?_
 rotate_left
 ·intro w'
  go_simp
  with_reducible rfl
 rotate_left
 ·simp only [Act.put, sQ0, sQ1, sQ2, i64_w]
  rfl
 refine pure_ (i := 20) (N := (some 62)) (v := ?_) (a' := ?_) #[tt,tt,tt,tt,tt,tt,tt,tt,tt,tt,tt,tt,tt,tt,tt,tt,tt,tt,tt,tt,tt,ff] rfl rfl (any_of HT_.out (by kernel_rfl)) (fun _ _ _ h => h) (Or.inl ⟨by rfl, ?_⟩) ?_ ?_
 rotate_left
 ·intro w'
  go_simp
  with_reducible rfl
 rotate_left
 ·simp only [Act.put, sQ0, sQ1, sQ2, i64_w]
  rfl
 refine pure_ (i := 21) (N := (some 41)) (v := ?_) (a' := ?_) #[tt,tt,tt,tt,tt,tt,tt,tt,tt,tt,tt,tt,tt,tt,tt,tt,tt,tt,tt,tt,tt,tt] rfl rfl (any_of HT_.out (by kernel_rfl)) (fun _ _ _ h => h) (Or.inl ⟨by rfl, ?_⟩) ?_ ?_
 rotate_left
 ·intro w'
  go_simp
  with_reducible rfl
 rotate_left
 ·simp only [Act.put, sQ0, sQ1, sQ2, i64_w]
  rfl
 refine done_ (done_of HT_.out (by kernel_rfl)) ?_
 clear hHeld
 have hcb := fun i => HJ5.out.bj.be.cell i
 have hce := fun i => blk_cell HJ5.out.bj.eb_ i
 have hcg := fun i => blk_cell HJ5.out.gb i
 go_upto_region 7 with (fail)
 refine gen_world' (fun W => Wj w W B b n mb m1 m2 m3 s pf e w.heap.size g iv k.beg none) (by exact HJ5.out) fun w6 Hw6 => ?_
 have HJw6 := Aside0.mk Hw6
 clear Hw6
 clear hcb hce hcg hlb hle hlg
 have hcb := fun i => HJw6.out.bj.be.cell i
 have hce := fun i => blk_cell HJw6.out.bj.eb_ i
 have hcg := fun i => blk_cell HJw6.out.gb i
 have hlb := HJw6.out.bj.be.lt
 have hle := blk_lt HJw6.out.bj.eb_
 have hlg := blk_lt HJw6.out.gb
 refine start_ (n := 7) (S := (fun w' => (∀ i, w'.cell? ⟨b, i, none⟩ = (beA s.nw mb m3)[i]?) ∧ (∀ i, w'.cell? ⟨w.heap.size, i, none⟩ = (evA e)[i]?) ∧ (∀ i, w'.cell? ⟨g, i, none⟩ = (wkA iv k.beg none)[i]?))) (ds := [5]) #[ff,ff,ff,ff,ff,ff,ff] (by kernel_rfl) rfl rfl HJw6.out.drew.cells (fun hHeld => ?_)
 refine with_tabW bpR.tab7 bpR.bits7 (fun HT_ HW_ => ?_)
 have HJ7 := Aside0.mk HJw6.out.drew
 generalize w6.drew = w7 at HJ7 hHeld ⊢
 clear hcb hce hcg hlb hle hlg
 have hlb := HJ7.out.bj.be.lt
 have hle := blk_lt HJ7.out.bj.eb_
 have hlg := blk_lt HJ7.out.gb
 refine pure_ (i := 0) (N := (some 63)) (v := ?_) (a' := ?_) #[tt,ff,ff,ff,ff,ff,ff] rfl rfl (any_of HT_.out (by kernel_rfl)) (fun _ _ _ h => h) (Or.inl ⟨by rfl, ?_⟩) ?_ ?_
 rotate_left
 ·intro w'
  go_simp
  with_reducible rfl
 rotate_left
 ·simp only [Act.put, sQ0, sQ1, sQ2, i64_w]
  rfl
 refine pure_ (i := 1) (N := (some 64)) (v := ?_) (a' := ?_) #[tt,tt,ff,ff,ff,ff,ff] rfl rfl (any_of HT_.out (by kernel_rfl)) (fun _ _ _ h => h) (Or.inl ⟨by rfl, ?_⟩) ?_ ?_
 rotate_left
 ·intro w'
  go_simp
  with_reducible rfl
 rotate_left
 ·simp only [Act.put, sQ0, sQ1, sQ2, i64_w]
  rfl
 refine pure_ (i := 2) (N := (some 65)) (v := ?_) (a' := ?_) #[tt,tt,tt,ff,ff,ff,ff] rfl rfl (any_of HT_.out (by kernel_rfl)) (fun _ _ _ h => h) (Or.inl ⟨by rfl, ?_⟩) ?_ ?_
 rotate_left
 ·intro w'
  go_simp
  with_reducible rfl
 rotate_left
 ·simp only [Act.put, sQ0, sQ1, sQ2, i64_w]
  rfl
 refine take_ (i := 3) (N := (some 66)) (v := ?_) (a' := ?_) #[tt,tt,tt,tt,ff,ff,ff] rfl rfl (take_ofW HT_.out HW_.out (by kernel_rfl)) (fun _ _ _ h => h) (Or.inl ⟨by rfl, ?_⟩) hHeld ?_ ?_
 rotate_left
 ·rintro w' ⟨s0, s1, s2⟩
  go_simp
  with_reducible rfl
 rotate_left
 ·simp only [Act.put, sQ0, sQ1, sQ2, i64_w]
  rfl
 refine take_ (i := 4) (N := (some 67)) (v := ?_) (a' := ?_) #[tt,tt,tt,tt,tt,ff,ff] rfl rfl (take_ofW HT_.out HW_.out (by kernel_rfl)) (fun _ _ _ h => h) (Or.inl ⟨by rfl, ?_⟩) hHeld ?_ ?_
 rotate_left
 ·rintro w' ⟨s0, s1, s2⟩
  go_simp
  with_reducible rfl
 rotate_left
 ·simp only [Act.put, sQ0, sQ1, sQ2, i64_w]
  rfl
 refine last_ (i := 5) (N := (some 68)) #[tt,tt,tt,tt,tt,tt,ff] rfl rfl (one_of HT_.out (by kernel_rfl)) (by decide) (fun K hK => ?_)
 refine call_ (f := 43) #[pA mb, .agg (evA e)] (by rfl) rfl (by go_simp <;> rfl) ?_
 refine (do_any e HW.out HN.out HWL.out HJ7.out.bj.be.md).mono ?_
 rintro r w8 ⟨rfl, hm, hf⟩
 refine ⟨_, rfl, ?_⟩
 have HD := Aside0.mk (HJ7.out.model hm (by omega) hf)
 clear hm hf
 refine hK.out _ _ ?_
 clear hK K
 refine norm_ (a' := ?_) ?_ ?_
 rotate_left
 ·show Act.put _ (some 68) _ = _
  simp only [Act.put, sQ0, sQ1, sQ2, i64_w]
  rfl
 refine pure_ (i := 6) (N := (some 8)) (v := ?_) (a' := ?_) #[tt,tt,tt,tt,tt,tt,tt] rfl rfl (any_of HT_.out (by kernel_rfl)) (fun _ _ _ h => h) (Or.inl ⟨by rfl, ?_⟩) ?_ ?_
 rotate_left
 ·intro w'
  go_simp
  with_reducible rfl
 rotate_left
 ·simp only [Act.put, sQ0, sQ1, sQ2, i64_w]
  rfl
 refine done_ (done_of HT_.out (by kernel_rfl)) ?_
 clear hlb hle hlg
 have hcb := fun i => HD.out.bj.be.cell i
 have hce := fun i => blk_cell HD.out.bj.eb_ i
 have hcg := fun i => blk_cell HD.out.gb i
 have hlb := HD.out.bj.be.lt
 have hle := blk_lt HD.out.bj.eb_
 have hlg := blk_lt HD.out.gb
 have hfg := fun i => blk_frozen HD.out.gb i
 go_wp2
 go_ret
 exact BePost.of HF.out rfl (HD.out.bj.be.up (by omega)) HD.out.bj.bel
theorem bpoint_n0_ok {w : World} {B b n mb m1 m2 m3 g : Nat} {s : Be} {pf : Int → Option Nat} {k : Wk} (e iv : Ev) (hw : (Lit.int .i64 e.hn).wf = true ∧ (Lit.int .i64 e.hg).wf = true ∧ (Lit.int .i64 e.nn).wf = true ∧ (Lit.int .i64 e.ng).wf = true) (hn : n + 1 ≤ 1000000) (hwl : ∀ x, (Lit.int .i64 ((s.m.lst x).getD 0)).wf = true) (h : BeIs w B b n s mb m1 m2 m3 pf) (hB : B ≤ w.heap.size) (hk : s.wks e.wk = some k) (hp : pf e.wk = some g) (hgb : w.heap[g]? = some (.cells (wkA iv k.beg none) 119 (0, 0))) (hBg : B ≤ g) (hpt : k.pt = none) (hh : k.hn = iv.hn ∧ k.hg = iv.hg ∧ k.t = iv.t) (ho : e.op = 1) (h0 : ¬ e.er = 0) (hc : (doF s.m e).2 = 0) :
  Calls Try.prog 66 #[pA b, pA g, .agg (evA e)] w (BePost w B b n mb m1 m2 m3 (pointB s k e)) := by
 have hu0 := Try.underlying61
 have hu1 := Try.underlying34
 have hu2 := Try.underlying54
 have hu3 := Try.underlying119
 have HF := Aside0.mk (show pointB s k e = ({ s with m := (doF s.m e).1, wks := updW s.wks e.wk (some { k with pt := some (ptOf e) }) }, 0) by have hok : pointOk s k e = true := (by unfold pointOk; rw [hpt, hh.1, hh.2.1, hh.2.2]; simp [ho, h0]); unfold pointB; rw [if_pos hok, if_pos hc])
 have q0 : (e.er == 0) = false := beq_eq_false_iff_ne.2 (h0)
 have r0 : (e.er != 0) = true := bne_iff_ne.2 (h0)
 have q1 : (e.op == 1) = true := beq_iff_eq.2 (ho)
 have r1 : (e.op != 1) = false := bne_eq_false_iff_eq.2 (ho)
 have c0 : ((doF s.m e).2 == 0) = true := beq_iff_eq.2 (hc)
 have HC := Aside0.mk hc
 have HW := Aside0.mk hw
 have HN := Aside0.mk hn
 have HWL := Aside0.mk hwl
 have HK := Aside0.mk (And.intro hk (And.intro hp hBg))
 have HJ := Aside0.mk (show Wj w (w.alloc (.cells (evA e) 54)) B b n mb m1 m2 m3 s pf e w.heap.size g iv k.beg none from ⟨Bj.start h hB e, blk_alloc hgb _⟩)
 clear hw hn hwl hk hp hBg h hB hgb hpt hh ho h0 hc
 have hcb := fun i => HJ.out.bj.be.cell i
 have hce := fun i => blk_cell HJ.out.bj.eb_ i
 have hcg := fun i => blk_cell HJ.out.gb i
 have hlb := HJ.out.bj.be.lt
 have hle := blk_lt HJ.out.bj.eb_
 have hlg := blk_lt HJ.out.gb
 go_enter Try.func66, Try.ntmps66
 go_upto_region 3 with (fail)
 refine gen_world' (fun W => Wj w W B b n mb m1 m2 m3 s pf e w.heap.size g iv k.beg none) (by exact HJ.out) fun w3 Hw3 => ?_
 have HJw3 := Aside0.mk Hw3
 clear Hw3
 clear hcb hce hcg hlb hle hlg
 have hcb := fun i => HJw3.out.bj.be.cell i
 have hce := fun i => blk_cell HJw3.out.bj.eb_ i
 have hcg := fun i => blk_cell HJw3.out.gb i
 have hlb := HJw3.out.bj.be.lt
 have hle := blk_lt HJw3.out.bj.eb_
 have hlg := blk_lt HJw3.out.gb
 go_quiet (fail)
 go_upto_region 5 with (fail)
 refine gen_world' (fun W => Wj w W B b n mb m1 m2 m3 s pf e w.heap.size g iv k.beg none) (by exact HJw3.out.drewN _) fun w4 Hw4 => ?_
 have HJw4 := Aside0.mk Hw4
 clear Hw4
 clear hcb hce hcg hlb hle hlg
 have hcb := fun i => HJw4.out.bj.be.cell i
 have hce := fun i => blk_cell HJw4.out.bj.eb_ i
 have hcg := fun i => blk_cell HJw4.out.gb i
 have hlb := HJw4.out.bj.be.lt
 have hle := blk_lt HJw4.out.bj.eb_
 have hlg := blk_lt HJw4.out.gb
 go_quiet (fail)
 go_upto_region 7 with (fail)
 refine gen_world' (fun W => Wj w W B b n mb m1 m2 m3 s pf e w.heap.size g iv k.beg none) (by exact HJw4.out.drewN _) fun w6 Hw6 => ?_
 have HJw6 := Aside0.mk Hw6
 clear Hw6
 clear hcb hce hcg hlb hle hlg
 have hcb := fun i => HJw6.out.bj.be.cell i
 have hce := fun i => blk_cell HJw6.out.bj.eb_ i
 have hcg := fun i => blk_cell HJw6.out.gb i
 have hlb := HJw6.out.bj.be.lt
 have hle := blk_lt HJw6.out.bj.eb_
 have hlg := blk_lt HJw6.out.gb
 refine start_ (n := 7) (S := (fun w' => (∀ i, w'.cell? ⟨b, i, none⟩ = (beA s.nw mb m3)[i]?) ∧ (∀ i, w'.cell? ⟨w.heap.size, i, none⟩ = (evA e)[i]?) ∧ (∀ i, w'.cell? ⟨g, i, none⟩ = (wkA iv k.beg none)[i]?))) (ds := [5]) #[ff,ff,ff,ff,ff,ff,ff] (by kernel_rfl) rfl rfl HJw6.out.drew.cells (fun hHeld => ?_)
 refine with_tabW bpR.tab7 bpR.bits7 (fun HT_ HW_ => ?_)
 have HJ7 := Aside0.mk HJw6.out.drew
 generalize w6.drew = w7 at HJ7 hHeld ⊢
 clear hcb hce hcg hlb hle hlg
 have hlb := HJ7.out.bj.be.lt
 have hle := blk_lt HJ7.out.bj.eb_
 have hlg := blk_lt HJ7.out.gb
 refine pure_ (i := 0) (N := (some 63)) (v := ?_) (a' := ?_) #[tt,ff,ff,ff,ff,ff,ff] rfl rfl (any_of HT_.out (by kernel_rfl)) (fun _ _ _ h => h) (Or.inl ⟨by rfl, ?_⟩) ?_ ?_
 rotate_left
 ·intro w'
  go_simp
  with_reducible rfl
 rotate_left
 ·simp only [Act.put, sQ0, sQ1, sQ2, i64_w]
  rfl
 refine pure_ (i := 1) (N := (some 64)) (v := ?_) (a' := ?_) #[tt,tt,ff,ff,ff,ff,ff] rfl rfl (any_of HT_.out (by kernel_rfl)) (fun _ _ _ h => h) (Or.inl ⟨by rfl, ?_⟩) ?_ ?_
 rotate_left
 ·intro w'
  go_simp
  with_reducible rfl
 rotate_left
 ·simp only [Act.put, sQ0, sQ1, sQ2, i64_w]
  rfl
 refine pure_ (i := 2) (N := (some 65)) (v := ?_) (a' := ?_) #[tt,tt,tt,ff,ff,ff,ff] rfl rfl (any_of HT_.out (by kernel_rfl)) (fun _ _ _ h => h) (Or.inl ⟨by rfl, ?_⟩) ?_ ?_
 rotate_left
 ·intro w'
  go_simp
  with_reducible rfl
 rotate_left
 ·simp only [Act.put, sQ0, sQ1, sQ2, i64_w]
  rfl
 refine take_ (i := 3) (N := (some 66)) (v := ?_) (a' := ?_) #[tt,tt,tt,tt,ff,ff,ff] rfl rfl (take_ofW HT_.out HW_.out (by kernel_rfl)) (fun _ _ _ h => h) (Or.inl ⟨by rfl, ?_⟩) hHeld ?_ ?_
 rotate_left
 ·rintro w' ⟨s0, s1, s2⟩
  go_simp
  with_reducible rfl
 rotate_left
 ·simp only [Act.put, sQ0, sQ1, sQ2, i64_w]
  rfl
 refine take_ (i := 4) (N := (some 67)) (v := ?_) (a' := ?_) #[tt,tt,tt,tt,tt,ff,ff] rfl rfl (take_ofW HT_.out HW_.out (by kernel_rfl)) (fun _ _ _ h => h) (Or.inl ⟨by rfl, ?_⟩) hHeld ?_ ?_
 rotate_left
 ·rintro w' ⟨s0, s1, s2⟩
  go_simp
  with_reducible rfl
 rotate_left
 ·simp only [Act.put, sQ0, sQ1, sQ2, i64_w]
  rfl
 refine last_ (i := 5) (N := (some 68)) #[tt,tt,tt,tt,tt,tt,ff] rfl rfl (one_of HT_.out (by kernel_rfl)) (by decide) (fun K hK => ?_)
 refine call_ (f := 43) #[pA mb, .agg (evA e)] (by rfl) rfl (by go_simp <;> rfl) ?_
 refine (do_any e HW.out HN.out HWL.out HJ7.out.bj.be.md).mono ?_
 rintro r w8 ⟨rfl, hm, hf⟩
 refine ⟨_, rfl, ?_⟩
 have HD := Aside0.mk (HJ7.out.model hm (by omega) hf)
 clear hm hf
 refine hK.out _ _ ?_
 clear hK K
 refine norm_ (a' := ?_) ?_ ?_
 rotate_left
 ·show Act.put _ (some 68) _ = _
  simp only [Act.put, sQ0, sQ1, sQ2, i64_w]
  rfl
 refine pure_ (i := 6) (N := (some 8)) (v := ?_) (a' := ?_) #[tt,tt,tt,tt,tt,tt,tt] rfl rfl (any_of HT_.out (by kernel_rfl)) (fun _ _ _ h => h) (Or.inl ⟨by rfl, ?_⟩) ?_ ?_
 rotate_left
 ·intro w'
  go_simp
  with_reducible rfl
 rotate_left
 ·simp only [Act.put, sQ0, sQ1, sQ2, i64_w]
  rfl
 refine done_ (done_of HT_.out (by kernel_rfl)) ?_
 clear hlb hle hlg
 have hcb := fun i => HD.out.bj.be.cell i
 have hce := fun i => blk_cell HD.out.bj.eb_ i
 have hcg := fun i => blk_cell HD.out.gb i
 have hlb := HD.out.bj.be.lt
 have hle := blk_lt HD.out.bj.eb_
 have hlg := blk_lt HD.out.gb
 have hfg := fun i => blk_frozen HD.out.gb i
 go_wp2
 go_ret
 have hE := do_end HD.out HK.out.1 HK.out.2.1 HK.out.2.2
 exact BePost.of HF.out (by first | exact HC.out | rfl) (hE.1.up (by omega)) hE.2
theorem bpoint_n0_fail {w : World} {B b n mb m1 m2 m3 g : Nat} {s : Be} {pf : Int → Option Nat} {k : Wk} (e iv : Ev) (hw : (Lit.int .i64 e.hn).wf = true ∧ (Lit.int .i64 e.hg).wf = true ∧ (Lit.int .i64 e.nn).wf = true ∧ (Lit.int .i64 e.ng).wf = true) (hn : n + 1 ≤ 1000000) (hwl : ∀ x, (Lit.int .i64 ((s.m.lst x).getD 0)).wf = true) (h : BeIs w B b n s mb m1 m2 m3 pf) (hB : B ≤ w.heap.size) (hk : s.wks e.wk = some k) (hp : pf e.wk = some g) (hgb : w.heap[g]? = some (.cells (wkA iv k.beg none) 119 (0, 0))) (hBg : B ≤ g) (hpt : k.pt = none) (hh : k.hn = iv.hn ∧ k.hg = iv.hg ∧ k.t = iv.t) (ho : e.op = 1) (h0 : ¬ e.er = 0) (hc : ¬ (doF s.m e).2 = 0) :
  Calls Try.prog 66 #[pA b, pA g, .agg (evA e)] w (BePost w B b n mb m1 m2 m3 (pointB s k e)) := by
 have hu0 := Try.underlying61
 have hu1 := Try.underlying34
 have hu2 := Try.underlying54
 have hu3 := Try.underlying119
 have HF := Aside0.mk (show pointB s k e = ({ s with m := (doF s.m e).1 }, (doF s.m e).2) by have hok : pointOk s k e = true := (by unfold pointOk; rw [hpt, hh.1, hh.2.1, hh.2.2]; simp [ho, h0]); unfold pointB; rw [if_pos hok, if_neg hc])
 have q0 : (e.er == 0) = false := beq_eq_false_iff_ne.2 (h0)
 have r0 : (e.er != 0) = true := bne_iff_ne.2 (h0)
 have q1 : (e.op == 1) = true := beq_iff_eq.2 (ho)
 have r1 : (e.op != 1) = false := bne_eq_false_iff_eq.2 (ho)
 have c0 : ((doF s.m e).2 == 0) = false := beq_eq_false_iff_ne.2 (hc)
 have HW := Aside0.mk hw
 have HN := Aside0.mk hn
 have HWL := Aside0.mk hwl
 have HK := Aside0.mk (And.intro hk (And.intro hp hBg))
 have HJ := Aside0.mk (show Wj w (w.alloc (.cells (evA e) 54)) B b n mb m1 m2 m3 s pf e w.heap.size g iv k.beg none from ⟨Bj.start h hB e, blk_alloc hgb _⟩)
 clear hw hn hwl hk hp hBg h hB hgb hpt hh ho h0 hc
 have hcb := fun i => HJ.out.bj.be.cell i
 have hce := fun i => blk_cell HJ.out.bj.eb_ i
 have hcg := fun i => blk_cell HJ.out.gb i
 have hlb := HJ.out.bj.be.lt
 have hle := blk_lt HJ.out.bj.eb_
 have hlg := blk_lt HJ.out.gb
 go_enter Try.func66, Try.ntmps66
 go_upto_region 3 with (fail)
 refine gen_world' (fun W => Wj w W B b n mb m1 m2 m3 s pf e w.heap.size g iv k.beg none) (by exact HJ.out) fun w3 Hw3 => ?_
 have HJw3 := Aside0.mk Hw3
 clear Hw3
 clear hcb hce hcg hlb hle hlg
 have hcb := fun i => HJw3.out.bj.be.cell i
 have hce := fun i => blk_cell HJw3.out.bj.eb_ i
 have hcg := fun i => blk_cell HJw3.out.gb i
 have hlb := HJw3.out.bj.be.lt
 have hle := blk_lt HJw3.out.bj.eb_
 have hlg := blk_lt HJw3.out.gb
 go_quiet (fail)
 go_upto_region 5 with (fail)
 refine gen_world' (fun W => Wj w W B b n mb m1 m2 m3 s pf e w.heap.size g iv k.beg none) (by exact HJw3.out.drewN _) fun w4 Hw4 => ?_
 have HJw4 := Aside0.mk Hw4
 clear Hw4
 clear hcb hce hcg hlb hle hlg
 have hcb := fun i => HJw4.out.bj.be.cell i
 have hce := fun i => blk_cell HJw4.out.bj.eb_ i
 have hcg := fun i => blk_cell HJw4.out.gb i
 have hlb := HJw4.out.bj.be.lt
 have hle := blk_lt HJw4.out.bj.eb_
 have hlg := blk_lt HJw4.out.gb
 go_quiet (fail)
 go_upto_region 7 with (fail)
 refine gen_world' (fun W => Wj w W B b n mb m1 m2 m3 s pf e w.heap.size g iv k.beg none) (by exact HJw4.out.drewN _) fun w6 Hw6 => ?_
 have HJw6 := Aside0.mk Hw6
 clear Hw6
 clear hcb hce hcg hlb hle hlg
 have hcb := fun i => HJw6.out.bj.be.cell i
 have hce := fun i => blk_cell HJw6.out.bj.eb_ i
 have hcg := fun i => blk_cell HJw6.out.gb i
 have hlb := HJw6.out.bj.be.lt
 have hle := blk_lt HJw6.out.bj.eb_
 have hlg := blk_lt HJw6.out.gb
 refine start_ (n := 7) (S := (fun w' => (∀ i, w'.cell? ⟨b, i, none⟩ = (beA s.nw mb m3)[i]?) ∧ (∀ i, w'.cell? ⟨w.heap.size, i, none⟩ = (evA e)[i]?) ∧ (∀ i, w'.cell? ⟨g, i, none⟩ = (wkA iv k.beg none)[i]?))) (ds := [5]) #[ff,ff,ff,ff,ff,ff,ff] (by kernel_rfl) rfl rfl HJw6.out.drew.cells (fun hHeld => ?_)
 refine with_tabW bpR.tab7 bpR.bits7 (fun HT_ HW_ => ?_)
 have HJ7 := Aside0.mk HJw6.out.drew
 generalize w6.drew = w7 at HJ7 hHeld ⊢
 clear hcb hce hcg hlb hle hlg
 have hlb := HJ7.out.bj.be.lt
 have hle := blk_lt HJ7.out.bj.eb_
 have hlg := blk_lt HJ7.out.gb
 refine pure_ (i := 0) (N := (some 63)) (v := ?_) (a' := ?_) #[tt,ff,ff,ff,ff,ff,ff] rfl rfl (any_of HT_.out (by kernel_rfl)) (fun _ _ _ h => h) (Or.inl ⟨by rfl, ?_⟩) ?_ ?_
 rotate_left
 ·intro w'
  go_simp
  with_reducible rfl
 rotate_left
 ·simp only [Act.put, sQ0, sQ1, sQ2, i64_w]
  rfl
 refine pure_ (i := 1) (N := (some 64)) (v := ?_) (a' := ?_) #[tt,tt,ff,ff,ff,ff,ff] rfl rfl (any_of HT_.out (by kernel_rfl)) (fun _ _ _ h => h) (Or.inl ⟨by rfl, ?_⟩) ?_ ?_
 rotate_left
 ·intro w'
  go_simp
  with_reducible rfl
 rotate_left
 ·simp only [Act.put, sQ0, sQ1, sQ2, i64_w]
  rfl
 refine pure_ (i := 2) (N := (some 65)) (v := ?_) (a' := ?_) #[tt,tt,tt,ff,ff,ff,ff] rfl rfl (any_of HT_.out (by kernel_rfl)) (fun _ _ _ h => h) (Or.inl ⟨by rfl, ?_⟩) ?_ ?_
 rotate_left
 ·intro w'
  go_simp
  with_reducible rfl
 rotate_left
 ·simp only [Act.put, sQ0, sQ1, sQ2, i64_w]
  rfl
 refine take_ (i := 3) (N := (some 66)) (v := ?_) (a' := ?_) #[tt,tt,tt,tt,ff,ff,ff] rfl rfl (take_ofW HT_.out HW_.out (by kernel_rfl)) (fun _ _ _ h => h) (Or.inl ⟨by rfl, ?_⟩) hHeld ?_ ?_
 rotate_left
 ·rintro w' ⟨s0, s1, s2⟩
  go_simp
  with_reducible rfl
 rotate_left
 ·simp only [Act.put, sQ0, sQ1, sQ2, i64_w]
  rfl
 refine take_ (i := 4) (N := (some 67)) (v := ?_) (a' := ?_) #[tt,tt,tt,tt,tt,ff,ff] rfl rfl (take_ofW HT_.out HW_.out (by kernel_rfl)) (fun _ _ _ h => h) (Or.inl ⟨by rfl, ?_⟩) hHeld ?_ ?_
 rotate_left
 ·rintro w' ⟨s0, s1, s2⟩
  go_simp
  with_reducible rfl
 rotate_left
 ·simp only [Act.put, sQ0, sQ1, sQ2, i64_w]
  rfl
 refine last_ (i := 5) (N := (some 68)) #[tt,tt,tt,tt,tt,tt,ff] rfl rfl (one_of HT_.out (by kernel_rfl)) (by decide) (fun K hK => ?_)
 refine call_ (f := 43) #[pA mb, .agg (evA e)] (by rfl) rfl (by go_simp <;> rfl) ?_
 refine (do_any e HW.out HN.out HWL.out HJ7.out.bj.be.md).mono ?_
 rintro r w8 ⟨rfl, hm, hf⟩
 refine ⟨_, rfl, ?_⟩
 have HD := Aside0.mk (HJ7.out.model hm (by omega) hf)
 clear hm hf
 refine hK.out _ _ ?_
 clear hK K
 refine norm_ (a' := ?_) ?_ ?_
 rotate_left
 ·show Act.put _ (some 68) _ = _
  simp only [Act.put, sQ0, sQ1, sQ2, i64_w]
  rfl
 refine pure_ (i := 6) (N := (some 8)) (v := ?_) (a' := ?_) #[tt,tt,tt,tt,tt,tt,tt] rfl rfl (any_of HT_.out (by kernel_rfl)) (fun _ _ _ h => h) (Or.inl ⟨by rfl, ?_⟩) ?_ ?_
 rotate_left
 ·intro w'
  go_simp
  with_reducible rfl
 rotate_left
 ·simp only [Act.put, sQ0, sQ1, sQ2, i64_w]
  rfl
 refine done_ (done_of HT_.out (by kernel_rfl)) ?_
 clear hlb hle hlg
 have hcb := fun i => HD.out.bj.be.cell i
 have hce := fun i => blk_cell HD.out.bj.eb_ i
 have hcg := fun i => blk_cell HD.out.gb i
 have hlb := HD.out.bj.be.lt
 have hle := blk_lt HD.out.bj.eb_
 have hlg := blk_lt HD.out.gb
 have hfg := fun i => blk_frozen HD.out.gb i
 go_wp2
 go_ret
 exact BePost.of HF.out rfl (HD.out.bj.be.up (by omega)) HD.out.bj.bel
theorem bpoint_m3_no {w : World} {B b n mb m1 m2 m3 g : Nat} {s : Be} {pf : Int → Option Nat} {k : Wk} (e iv : Ev) (hw : (Lit.int .i64 e.hn).wf = true ∧ (Lit.int .i64 e.hg).wf = true ∧ (Lit.int .i64 e.nn).wf = true ∧ (Lit.int .i64 e.ng).wf = true) (hn : n + 1 ≤ 1000000) (hwl : ∀ x, (Lit.int .i64 ((s.m.lst x).getD 0)).wf = true) (h : BeIs w B b n s mb m1 m2 m3 pf) (hB : B ≤ w.heap.size) (hk : s.wks e.wk = some k) (hp : pf e.wk = some g) (hgb : w.heap[g]? = some (.cells (wkA iv k.beg none) 119 (0, 0))) (hBg : B ≤ g) (hpt : k.pt = none) (hh : k.hn = iv.hn ∧ k.hg = iv.hg ∧ k.t = iv.t) (ho : e.op = 3) (h0 : e.er = 0) (hq : (e.hn == iv.hn && (e.hg == iv.hg)) = false) :
  Calls Try.prog 66 #[pA b, pA g, .agg (evA e)] w (BePost w B b n mb m1 m2 m3 (pointB s k e)) := by
 have hu0 := Try.underlying61
 have hu1 := Try.underlying34
 have hu2 := Try.underlying54
 have hu3 := Try.underlying119
 have HF := Aside0.mk (show pointB s k e = (s, 6) by unfold pointB pointOk; rw [hpt, hh.1, hh.2.1, hh.2.2]; rw [hq]; simp [ho, h0])
 have q0 : (e.er == 0) = true := beq_iff_eq.2 (h0)
 have r0 : (e.er != 0) = false := bne_eq_false_iff_eq.2 (h0)
 have q1 : (e.op == 1) = false := beq_eq_false_iff_ne.2 (by omega)
 have r1 : (e.op != 1) = true := bne_iff_ne.2 (by omega)
 have q3 : (e.op == 3) = true := beq_iff_eq.2 (ho)
 have r3 : (e.op != 3) = false := bne_eq_false_iff_eq.2 (ho)
 have hq0 := hq
 have HW := Aside0.mk hw
 have HN := Aside0.mk hn
 have HWL := Aside0.mk hwl
 have HK := Aside0.mk (And.intro hk (And.intro hp hBg))
 have HJ := Aside0.mk (show Wj w (w.alloc (.cells (evA e) 54)) B b n mb m1 m2 m3 s pf e w.heap.size g iv k.beg none from ⟨Bj.start h hB e, blk_alloc hgb _⟩)
 clear hw hn hwl hk hp hBg h hB hgb hpt hh ho h0 hq
 have hcb := fun i => HJ.out.bj.be.cell i
 have hce := fun i => blk_cell HJ.out.bj.eb_ i
 have hcg := fun i => blk_cell HJ.out.gb i
 have hlb := HJ.out.bj.be.lt
 have hle := blk_lt HJ.out.bj.eb_
 have hlg := blk_lt HJ.out.gb
 go_enter Try.func66, Try.ntmps66
 go_upto_region 3 with (fail)
 refine gen_world' (fun W => Wj w W B b n mb m1 m2 m3 s pf e w.heap.size g iv k.beg none) (by exact HJ.out) fun w3 Hw3 => ?_
 have HJw3 := Aside0.mk Hw3
 clear Hw3
 clear hcb hce hcg hlb hle hlg
 have hcb := fun i => HJw3.out.bj.be.cell i
 have hce := fun i => blk_cell HJw3.out.bj.eb_ i
 have hcg := fun i => blk_cell HJw3.out.gb i
 have hlb := HJw3.out.bj.be.lt
 have hle := blk_lt HJw3.out.bj.eb_
 have hlg := blk_lt HJw3.out.gb
 go_quiet (fail)
 go_wp2
 go_ret
 exact BePost.of HF.out rfl ((HJw3.out.drewN _).bj.be.up (by omega)) (HJw3.out.drewN _).bj.bel
theorem bpoint_m3_late {w : World} {B b n mb m1 m2 m3 g : Nat} {s : Be} {pf : Int → Option Nat} {k : Wk} (e iv : Ev) (hw : (Lit.int .i64 e.hn).wf = true ∧ (Lit.int .i64 e.hg).wf = true ∧ (Lit.int .i64 e.nn).wf = true ∧ (Lit.int .i64 e.ng).wf = true) (hn : n + 1 ≤ 1000000) (hwl : ∀ x, (Lit.int .i64 ((s.m.lst x).getD 0)).wf = true) (h : BeIs w B b n s mb m1 m2 m3 pf) (hB : B ≤ w.heap.size) (hk : s.wks e.wk = some k) (hp : pf e.wk = some g) (hgb : w.heap[g]? = some (.cells (wkA iv k.beg none) 119 (0, 0))) (hBg : B ≤ g) (hpt : k.pt = none) (hh : k.hn = iv.hn ∧ k.hg = iv.hg ∧ k.t = iv.t) (ho : e.op = 3) (h0 : e.er = 0) (hq : (e.hn == iv.hn && (e.hg == iv.hg)) = true) (hwb : (withinB e.t iv.t k.beg s.m.clk) = false) :
  Calls Try.prog 66 #[pA b, pA g, .agg (evA e)] w (BePost w B b n mb m1 m2 m3 (pointB s k e)) := by
 have hu0 := Try.underlying61
 have hu1 := Try.underlying34
 have hu2 := Try.underlying54
 have hu3 := Try.underlying119
 have HF := Aside0.mk (show pointB s k e = (s, 6) by unfold pointB pointOk; rw [hpt, hh.1, hh.2.1, hh.2.2]; rw [hq]; rw [hwb]; simp [ho, h0])
 have q0 : (e.er == 0) = true := beq_iff_eq.2 (h0)
 have r0 : (e.er != 0) = false := bne_eq_false_iff_eq.2 (h0)
 have q1 : (e.op == 1) = false := beq_eq_false_iff_ne.2 (by omega)
 have r1 : (e.op != 1) = true := bne_iff_ne.2 (by omega)
 have q3 : (e.op == 3) = true := beq_iff_eq.2 (ho)
 have r3 : (e.op != 3) = false := bne_eq_false_iff_eq.2 (ho)
 have hq0 := hq
 have hw0 := hwb
 have HW := Aside0.mk hw
 have HN := Aside0.mk hn
 have HWL := Aside0.mk hwl
 have HK := Aside0.mk (And.intro hk (And.intro hp hBg))
 have HJ := Aside0.mk (show Wj w (w.alloc (.cells (evA e) 54)) B b n mb m1 m2 m3 s pf e w.heap.size g iv k.beg none from ⟨Bj.start h hB e, blk_alloc hgb _⟩)
 clear hw hn hwl hk hp hBg h hB hgb hpt hh ho h0 hq hwb
 have hcb := fun i => HJ.out.bj.be.cell i
 have hce := fun i => blk_cell HJ.out.bj.eb_ i
 have hcg := fun i => blk_cell HJ.out.gb i
 have hlb := HJ.out.bj.be.lt
 have hle := blk_lt HJ.out.bj.eb_
 have hlg := blk_lt HJ.out.gb
 go_enter Try.func66, Try.ntmps66
 go_upto_region 3 with (fail)
 refine gen_world' (fun W => Wj w W B b n mb m1 m2 m3 s pf e w.heap.size g iv k.beg none) (by exact HJ.out) fun w3 Hw3 => ?_
 have HJw3 := Aside0.mk Hw3
 clear Hw3
 clear hcb hce hcg hlb hle hlg
 have hcb := fun i => HJw3.out.bj.be.cell i
 have hce := fun i => blk_cell HJw3.out.bj.eb_ i
 have hcg := fun i => blk_cell HJw3.out.gb i
 have hlb := HJw3.out.bj.be.lt
 have hle := blk_lt HJw3.out.bj.eb_
 have hlg := blk_lt HJw3.out.gb
 go_quiet (fail)
 go_upto_region 5 with (fail)
 refine gen_world' (fun W => Wj w W B b n mb m1 m2 m3 s pf e w.heap.size g iv k.beg none) (by exact HJw3.out.drewN _) fun w4 Hw4 => ?_
 have HJw4 := Aside0.mk Hw4
 clear Hw4
 clear hcb hce hcg hlb hle hlg
 have hcb := fun i => HJw4.out.bj.be.cell i
 have hce := fun i => blk_cell HJw4.out.bj.eb_ i
 have hcg := fun i => blk_cell HJw4.out.gb i
 have hlb := HJw4.out.bj.be.lt
 have hle := blk_lt HJw4.out.bj.eb_
 have hlg := blk_lt HJw4.out.gb
 refine start_ (n := 22) (S := (fun w' => (∀ i, w'.cell? ⟨b, i, none⟩ = (beA s.nw mb m3)[i]?) ∧ (∀ i, w'.cell? ⟨w.heap.size, i, none⟩ = (evA e)[i]?) ∧ (∀ i, w'.cell? ⟨g, i, none⟩ = (wkA iv k.beg none)[i]?))) (ds := []) #[ff,ff,ff,ff,ff,ff,ff,ff,ff,ff,ff,ff,ff,ff,ff,ff,ff,ff,ff,ff,ff,ff] (by kernel_rfl) rfl rfl HJw4.out.drew.cells (fun hHeld => ?_)
 refine with_tabW bpR.tab5 bpR.bits5 (fun HT_ HW_ => ?_)
 have HJ5 := Aside0.mk HJw4.out.drew
 generalize w4.drew = w5 at HJ5 hHeld ⊢
 clear hcb hce hcg hlb hle hlg
 have hlb := HJ5.out.bj.be.lt
 have hle := blk_lt HJ5.out.bj.eb_
 have hlg := blk_lt HJ5.out.gb
 refine pure_ (i := 0) (N := (some 42)) (v := ?_) (a' := ?_) #[tt,ff,ff,ff,ff,ff,ff,ff,ff,ff,ff,ff,ff,ff,ff,ff,ff,ff,ff,ff,ff,ff] rfl rfl (any_of HT_.out (by kernel_rfl)) (fun _ _ _ h => h) (Or.inl ⟨by rfl, ?_⟩) ?_ ?_
 rotate_left
 ·intro w'
  go_simp
  with_reducible rfl
 rotate_left
 ·simp only [Act.put, sQ0, sQ1, sQ2, i64_w]
  rfl
 refine pure_ (i := 1) (N := (some 43)) (v := ?_) (a' := ?_) #[tt,tt,ff,ff,ff,ff,ff,ff,ff,ff,ff,ff,ff,ff,ff,ff,ff,ff,ff,ff,ff,ff] rfl rfl (any_of HT_.out (by kernel_rfl)) (fun _ _ _ h => h) (Or.inl ⟨by rfl, ?_⟩) ?_ ?_
 rotate_left
 ·intro w'
  go_simp
  with_reducible rfl
 rotate_left
 ·simp only [Act.put, sQ0, sQ1, sQ2, i64_w]
  rfl
 refine pure_ (i := 2) (N := (some 44)) (v := ?_) (a' := ?_) #[tt,tt,tt,ff,ff,ff,ff,ff,ff,ff,ff,ff,ff,ff,ff,ff,ff,ff,ff,ff,ff,ff] rfl rfl (any_of HT_.out (by kernel_rfl)) (fun _ _ _ h => h) (Or.inl ⟨by rfl, ?_⟩) ?_ ?_
 rotate_left
 ·intro w'
  go_simp
  with_reducible rfl
 rotate_left
 ·simp only [Act.put, sQ0, sQ1, sQ2, i64_w]
  rfl
 refine pure_ (i := 4) (N := (some 46)) (v := ?_) (a' := ?_) #[tt,tt,tt,ff,tt,ff,ff,ff,ff,ff,ff,ff,ff,ff,ff,ff,ff,ff,ff,ff,ff,ff] rfl rfl (any_of HT_.out (by kernel_rfl)) (fun _ _ _ h => h) (Or.inl ⟨by rfl, ?_⟩) ?_ ?_
 rotate_left
 ·intro w'
  go_simp
  with_reducible rfl
 rotate_left
 ·simp only [Act.put, sQ0, sQ1, sQ2, i64_w]
  rfl
 refine pure_ (i := 5) (N := (some 47)) (v := ?_) (a' := ?_) #[tt,tt,tt,ff,tt,tt,ff,ff,ff,ff,ff,ff,ff,ff,ff,ff,ff,ff,ff,ff,ff,ff] rfl rfl (any_of HT_.out (by kernel_rfl)) (fun _ _ _ h => h) (Or.inl ⟨by rfl, ?_⟩) ?_ ?_
 rotate_left
 ·intro w'
  go_simp
  with_reducible rfl
 rotate_left
 ·simp only [Act.put, sQ0, sQ1, sQ2, i64_w]
  rfl
 refine pure_ (i := 6) (N := (some 48)) (v := ?_) (a' := ?_) #[tt,tt,tt,ff,tt,tt,tt,ff,ff,ff,ff,ff,ff,ff,ff,ff,ff,ff,ff,ff,ff,ff] rfl rfl (any_of HT_.out (by kernel_rfl)) (fun _ _ _ h => h) (Or.inl ⟨by rfl, ?_⟩) ?_ ?_
 rotate_left
 ·intro w'
  go_simp
  with_reducible rfl
 rotate_left
 ·simp only [Act.put, sQ0, sQ1, sQ2, i64_w]
  rfl
 refine pure_ (i := 7) (N := (some 49)) (v := ?_) (a' := ?_) #[tt,tt,tt,ff,tt,tt,tt,tt,ff,ff,ff,ff,ff,ff,ff,ff,ff,ff,ff,ff,ff,ff] rfl rfl (any_of HT_.out (by kernel_rfl)) (fun _ _ _ h => h) (Or.inl ⟨by rfl, ?_⟩) ?_ ?_
 rotate_left
 ·intro w'
  go_simp
  with_reducible rfl
 rotate_left
 ·simp only [Act.put, sQ0, sQ1, sQ2, i64_w]
  rfl
 refine pure_ (i := 9) (N := (some 51)) (v := ?_) (a' := ?_) #[tt,tt,tt,ff,tt,tt,tt,tt,ff,tt,ff,ff,ff,ff,ff,ff,ff,ff,ff,ff,ff,ff] rfl rfl (any_of HT_.out (by kernel_rfl)) (fun _ _ _ h => h) (Or.inl ⟨by rfl, ?_⟩) ?_ ?_
 rotate_left
 ·intro w'
  go_simp
  with_reducible rfl
 rotate_left
 ·simp only [Act.put, sQ0, sQ1, sQ2, i64_w]
  rfl
 refine pure_ (i := 10) (N := (some 52)) (v := ?_) (a' := ?_) #[tt,tt,tt,ff,tt,tt,tt,tt,ff,tt,tt,ff,ff,ff,ff,ff,ff,ff,ff,ff,ff,ff] rfl rfl (any_of HT_.out (by kernel_rfl)) (fun _ _ _ h => h) (Or.inl ⟨by rfl, ?_⟩) ?_ ?_
 rotate_left
 ·intro w'
  go_simp
  with_reducible rfl
 rotate_left
 ·simp only [Act.put, sQ0, sQ1, sQ2, i64_w]
  rfl
 refine pure_ (i := 11) (N := (some 53)) (v := ?_) (a' := ?_) #[tt,tt,tt,ff,tt,tt,tt,tt,ff,tt,tt,tt,ff,ff,ff,ff,ff,ff,ff,ff,ff,ff] rfl rfl (any_of HT_.out (by kernel_rfl)) (fun _ _ _ h => h) (Or.inl ⟨by rfl, ?_⟩) ?_ ?_
 rotate_left
 ·intro w'
  go_simp
  with_reducible rfl
 rotate_left
 ·simp only [Act.put, sQ0, sQ1, sQ2, i64_w]
  rfl
 refine pure_ (i := 13) (N := (some 55)) (v := ?_) (a' := ?_) #[tt,tt,tt,ff,tt,tt,tt,tt,ff,tt,tt,tt,ff,tt,ff,ff,ff,ff,ff,ff,ff,ff] rfl rfl (any_of HT_.out (by kernel_rfl)) (fun _ _ _ h => h) (Or.inl ⟨by rfl, ?_⟩) ?_ ?_
 rotate_left
 ·intro w'
  go_simp
  with_reducible rfl
 rotate_left
 ·simp only [Act.put, sQ0, sQ1, sQ2, i64_w]
  rfl
 refine pure_ (i := 14) (N := (some 56)) (v := ?_) (a' := ?_) #[tt,tt,tt,ff,tt,tt,tt,tt,ff,tt,tt,tt,ff,tt,tt,ff,ff,ff,ff,ff,ff,ff] rfl rfl (any_of HT_.out (by kernel_rfl)) (fun _ _ _ h => h) (Or.inl ⟨by rfl, ?_⟩) ?_ ?_
 rotate_left
 ·intro w'
  go_simp
  with_reducible rfl
 rotate_left
 ·simp only [Act.put, sQ0, sQ1, sQ2, i64_w]
  rfl
 refine pure_ (i := 15) (N := (some 57)) (v := ?_) (a' := ?_) #[tt,tt,tt,ff,tt,tt,tt,tt,ff,tt,tt,tt,ff,tt,tt,tt,ff,ff,ff,ff,ff,ff] rfl rfl (any_of HT_.out (by kernel_rfl)) (fun _ _ _ h => h) (Or.inl ⟨by rfl, ?_⟩) ?_ ?_
 rotate_left
 ·intro w'
  go_simp
  with_reducible rfl
 rotate_left
 ·simp only [Act.put, sQ0, sQ1, sQ2, i64_w]
  rfl
 refine take_ (i := 3) (N := (some 45)) (v := ?_) (a' := ?_) #[tt,tt,tt,tt,tt,tt,tt,tt,ff,tt,tt,tt,ff,tt,tt,tt,ff,ff,ff,ff,ff,ff] rfl rfl (take_ofW HT_.out HW_.out (by kernel_rfl)) (fun _ _ _ h => h) (Or.inl ⟨by rfl, ?_⟩) hHeld ?_ ?_
 rotate_left
 ·rintro w' ⟨s0, s1, s2⟩
  go_simp
  with_reducible rfl
 rotate_left
 ·simp only [Act.put, sQ0, sQ1, sQ2, i64_w]
  rfl
 refine take_ (i := 8) (N := (some 50)) (v := ?_) (a' := ?_) #[tt,tt,tt,tt,tt,tt,tt,tt,tt,tt,tt,tt,ff,tt,tt,tt,ff,ff,ff,ff,ff,ff] rfl rfl (take_ofW HT_.out HW_.out (by kernel_rfl)) (fun _ _ _ h => h) (Or.inl ⟨by rfl, ?_⟩) hHeld ?_ ?_
 rotate_left
 ·rintro w' ⟨s0, s1, s2⟩
  go_simp
  with_reducible rfl
 rotate_left
 ·simp only [Act.put, sQ0, sQ1, sQ2, i64_w]
  rfl
 refine take_ (i := 12) (N := (some 54)) (v := ?_) (a' := ?_) #[tt,tt,tt,tt,tt,tt,tt,tt,tt,tt,tt,tt,tt,tt,tt,tt,ff,ff,ff,ff,ff,ff] rfl rfl (take_ofW HT_.out HW_.out (by kernel_rfl)) (fun _ _ _ h => h) (Or.inl ⟨by rfl, ?_⟩) hHeld ?_ ?_
 rotate_left
 ·rintro w' ⟨s0, s1, s2⟩
  go_simp
  with_reducible rfl
 rotate_left
 ·simp only [Act.put, sQ0, sQ1, sQ2, i64_w]
  rfl
 refine take_ (i := 16) (N := (some 58)) (v := ?_) (a' := ?_) #[tt,tt,tt,tt,tt,tt,tt,tt,tt,tt,tt,tt,tt,tt,tt,tt,tt,ff,ff,ff,ff,ff] rfl rfl (take_ofW HT_.out HW_.out (by kernel_rfl)) (fun _ _ _ h => h) (Or.inl ⟨by rfl, ?_⟩) hHeld ?_ ?_
 rotate_left
 ·rintro w' ⟨s0, s1, s2⟩
  go_simp
  with_reducible rfl
 rotate_left
 ·simp only [Act.put, sQ0, sQ1, sQ2, i64_w]
  rfl
 refine one_ (i := 17) (N := (some 59)) #[tt,tt,tt,tt,tt,tt,tt,tt,tt,tt,tt,tt,tt,tt,tt,tt,tt,tt,ff,ff,ff,ff] rfl rfl (one_of HT_.out (by kernel_rfl)) (by decide) (fun K hK => ?_)
 refine call_ (f := 41) #[pA mb] (by rfl) rfl (by go_simp <;> rfl) ?_
 refine (model_clock HJ5.out.bj.be.md).mono ?_
 rintro r w6 ⟨rfl, rfl⟩
 refine ⟨_, rfl, ?_⟩
 refine hK.out _ _ HJ5.out.cells (fun hHeld => ?_)
 clear hK K
 refine norm_ (a' := ?_) ?_ ?_
 rotate_left
 ·show Act.put _ (some 59) _ = _
  simp only [Act.put, sQ0, sQ1, sQ2, i64_w]
  rfl
 refine one_ (i := 18) (N := (some 60)) #[tt,tt,tt,tt,tt,tt,tt,tt,tt,tt,tt,tt,tt,tt,tt,tt,tt,tt,tt,ff,ff,ff] rfl rfl (one_of HT_.out (by kernel_rfl)) (by decide) (fun K hK => ?_)
 refine call_ (f := 95) #[.int .i64 e.t, .int .i64 iv.t, .int .i64 k.beg, .int .i64 s.m.clk] (by rfl) rfl (by go_simp <;> rfl) ?_
 refine (within_at _ _ _ _ w5).mono ?_
 rintro r w6 ⟨rfl, rfl⟩
 refine ⟨_, rfl, ?_⟩
 refine hK.out _ _ HJ5.out.cells (fun hHeld => ?_)
 clear hK K
 refine norm_ (a' := ?_) ?_ ?_
 rotate_left
 ·show Act.put _ (some 60) _ = _
  simp only [Act.put, sQ0, sQ1, sQ2, i64_w]
  rfl
 refine pure_ (i := 19) (N := (some 61)) (v := ?_) (a' := ?_) #[tt,tt,tt,tt,tt,tt,tt,tt,tt,tt,tt,tt,tt,tt,tt,tt,tt,tt,tt,tt,ff,ff] rfl rfl (any_of HT_.out (by kernel_rfl)) (fun _ _ _ h => h) (Or.inl ⟨by rfl, ?_⟩) ?_ ?_
 rotate_left
 ·intro w'
  go_simp
  with_reducible rfl
 rotate_left
 ·simp only [Act.put, sQ0, sQ1, sQ2, i64_w]
  rfl
 refine pure_ (i := 20) (N := (some 62)) (v := ?_) (a' := ?_) #[tt,tt,tt,tt,tt,tt,tt,tt,tt,tt,tt,tt,tt,tt,tt,tt,tt,tt,tt,tt,tt,ff] rfl rfl (any_of HT_.out (by kernel_rfl)) (fun _ _ _ h => h) (Or.inl ⟨by rfl, ?_⟩) ?_ ?_
 rotate_left
 ·intro w'
  go_simp
  with_reducible rfl
 rotate_left
 ·simp only [Act.put, sQ0, sQ1, sQ2, i64_w]
  rfl
 refine pure_ (i := 21) (N := (some 41)) (v := ?_) (a' := ?_) #[tt,tt,tt,tt,tt,tt,tt,tt,tt,tt,tt,tt,tt,tt,tt,tt,tt,tt,tt,tt,tt,tt] rfl rfl (any_of HT_.out (by kernel_rfl)) (fun _ _ _ h => h) (Or.inl ⟨by rfl, ?_⟩) ?_ ?_
 rotate_left
 ·intro w'
  go_simp
  with_reducible rfl
 rotate_left
 ·simp only [Act.put, sQ0, sQ1, sQ2, i64_w]
  rfl
 refine done_ (done_of HT_.out (by kernel_rfl)) ?_
 clear hHeld
 have hcb := fun i => HJ5.out.bj.be.cell i
 have hce := fun i => blk_cell HJ5.out.bj.eb_ i
 have hcg := fun i => blk_cell HJ5.out.gb i
 go_wp2
 go_ret
 exact BePost.of HF.out rfl (HJ5.out.bj.be.up (by omega)) HJ5.out.bj.bel
theorem bpoint_m3_ok {w : World} {B b n mb m1 m2 m3 g : Nat} {s : Be} {pf : Int → Option Nat} {k : Wk} (e iv : Ev) (hw : (Lit.int .i64 e.hn).wf = true ∧ (Lit.int .i64 e.hg).wf = true ∧ (Lit.int .i64 e.nn).wf = true ∧ (Lit.int .i64 e.ng).wf = true) (hn : n + 1 ≤ 1000000) (hwl : ∀ x, (Lit.int .i64 ((s.m.lst x).getD 0)).wf = true) (h : BeIs w B b n s mb m1 m2 m3 pf) (hB : B ≤ w.heap.size) (hk : s.wks e.wk = some k) (hp : pf e.wk = some g) (hgb : w.heap[g]? = some (.cells (wkA iv k.beg none) 119 (0, 0))) (hBg : B ≤ g) (hpt : k.pt = none) (hh : k.hn = iv.hn ∧ k.hg = iv.hg ∧ k.t = iv.t) (ho : e.op = 3) (h0 : e.er = 0) (hq : (e.hn == iv.hn && (e.hg == iv.hg)) = true) (hwb : (withinB e.t iv.t k.beg s.m.clk) = true) (hc : (doF s.m e).2 = 0) :
  Calls Try.prog 66 #[pA b, pA g, .agg (evA e)] w (BePost w B b n mb m1 m2 m3 (pointB s k e)) := by
 have hu0 := Try.underlying61
 have hu1 := Try.underlying34
 have hu2 := Try.underlying54
 have hu3 := Try.underlying119
 have HF := Aside0.mk (show pointB s k e = ({ s with m := (doF s.m e).1, wks := updW s.wks e.wk (some { k with pt := some (ptOf e) }) }, 0) by have hok : pointOk s k e = true := (by unfold pointOk; rw [hpt, hh.1, hh.2.1, hh.2.2]; rw [hq]; rw [hwb]; simp [ho, h0]); unfold pointB; rw [if_pos hok, if_pos hc])
 have q0 : (e.er == 0) = true := beq_iff_eq.2 (h0)
 have r0 : (e.er != 0) = false := bne_eq_false_iff_eq.2 (h0)
 have q1 : (e.op == 1) = false := beq_eq_false_iff_ne.2 (by omega)
 have r1 : (e.op != 1) = true := bne_iff_ne.2 (by omega)
 have q3 : (e.op == 3) = true := beq_iff_eq.2 (ho)
 have r3 : (e.op != 3) = false := bne_eq_false_iff_eq.2 (ho)
 have hq0 := hq
 have hw0 := hwb
 have c0 : ((doF s.m e).2 == 0) = true := beq_iff_eq.2 (hc)
 have HC := Aside0.mk hc
 have HW := Aside0.mk hw
 have HN := Aside0.mk hn
 have HWL := Aside0.mk hwl
 have HK := Aside0.mk (And.intro hk (And.intro hp hBg))
 have HJ := Aside0.mk (show Wj w (w.alloc (.cells (evA e) 54)) B b n mb m1 m2 m3 s pf e w.heap.size g iv k.beg none from ⟨Bj.start h hB e, blk_alloc hgb _⟩)
 clear hw hn hwl hk hp hBg h hB hgb hpt hh ho h0 hq hwb hc
 have hcb := fun i => HJ.out.bj.be.cell i
 have hce := fun i => blk_cell HJ.out.bj.eb_ i
 have hcg := fun i => blk_cell HJ.out.gb i
 have hlb := HJ.out.bj.be.lt
 have hle := blk_lt HJ.out.bj.eb_
 have hlg := blk_lt HJ.out.gb
 go_enter Try.func66, Try.ntmps66
 go_upto_region 3 with (fail)
 refine gen_world' (fun W => Wj w W B b n mb m1 m2 m3 s pf e w.heap.size g iv k.beg none) (by exact HJ.out) fun w3 Hw3 => ?_
 have HJw3 := Aside0.mk Hw3
 clear Hw3
 clear hcb hce hcg hlb hle hlg
 have hcb := fun i => HJw3.out.bj.be.cell i
 have hce := fun i => blk_cell HJw3.out.bj.eb_ i
 have hcg := fun i => blk_cell HJw3.out.gb i
 have hlb := HJw3.out.bj.be.lt
 have hle := blk_lt HJw3.out.bj.eb_
 have hlg := blk_lt HJw3.out.gb
 go_quiet (fail)
 go_upto_region 5 with (fail)
 refine gen_world' (fun W => Wj w W B b n mb m1 m2 m3 s pf e w.heap.size g iv k.beg none) (by exact HJw3.out.drewN _) fun w4 Hw4 => ?_
 have HJw4 := Aside0.mk Hw4
 clear Hw4
 clear hcb hce hcg hlb hle hlg
 have hcb := fun i => HJw4.out.bj.be.cell i
 have hce := fun i => blk_cell HJw4.out.bj.eb_ i
 have hcg := fun i => blk_cell HJw4.out.gb i
 have hlb := HJw4.out.bj.be.lt
 have hle := blk_lt HJw4.out.bj.eb_
 have hlg := blk_lt HJw4.out.gb
 refine start_ (n := 22) (S := (fun w' => (∀ i, w'.cell? ⟨b, i, none⟩ = (beA s.nw mb m3)[i]?) ∧ (∀ i, w'.cell? ⟨w.heap.size, i, none⟩ = (evA e)[i]?) ∧ (∀ i, w'.cell? ⟨g, i, none⟩ = (wkA iv k.beg none)[i]?))) (ds := []) #[ff,ff,ff,ff,ff,ff,ff,ff,ff,ff,ff,ff,ff,ff,ff,ff,ff,ff,ff,ff,ff,ff] (by kernel_rfl) rfl rfl HJw4.out.drew.cells (fun hHeld => ?_)
 refine with_tabW bpR.tab5 bpR.bits5 (fun HT_ HW_ => ?_)
 have HJ5 := Aside0.mk HJw4.out.drew
 generalize w4.drew = w5 at HJ5 hHeld ⊢
 clear hcb hce hcg hlb hle hlg
 have hlb := HJ5.out.bj.be.lt
 have hle := blk_lt HJ5.out.bj.eb_
 have hlg := blk_lt HJ5.out.gb
 refine pure_ (i := 0) (N := (some 42)) (v := ?_) (a' := ?_) #[tt,ff,ff,ff,ff,ff,ff,ff,ff,ff,ff,ff,ff,ff,ff,ff,ff,ff,ff,ff,ff,ff] rfl rfl (any_of HT_.out (by kernel_rfl)) (fun _ _ _ h => h) (Or.inl ⟨by rfl, ?_⟩) ?_ ?_
 rotate_left
 ·intro w'
  go_simp
  with_reducible rfl
 rotate_left
 ·simp only [Act.put, sQ0, sQ1, sQ2, i64_w]
  rfl
 refine pure_ (i := 1) (N := (some 43)) (v := ?_) (a' := ?_) #[tt,tt,ff,ff,ff,ff,ff,ff,ff,ff,ff,ff,ff,ff,ff,ff,ff,ff,ff,ff,ff,ff] rfl rfl (any_of HT_.out (by kernel_rfl)) (fun _ _ _ h => h) (Or.inl ⟨by rfl, ?_⟩) ?_ ?_
 rotate_left
 ·intro w'
  go_simp
  with_reducible rfl
 rotate_left
 ·simp only [Act.put, sQ0, sQ1, sQ2, i64_w]
  rfl
 refine pure_ (i := 2) (N := (some 44)) (v := ?_) (a' := ?_) #[tt,tt,tt,ff,ff,ff,ff,ff,ff,ff,ff,ff,ff,ff,ff,ff,ff,ff,ff,ff,ff,ff] rfl rfl (any_of HT_.out (by kernel_rfl)) (fun _ _ _ h => h) (Or.inl ⟨by rfl, ?_⟩) ?_ ?_
 rotate_left
 ·intro w'
  go_simp
  with_reducible rfl
 rotate_left
 ·simp only [Act.put, sQ0, sQ1, sQ2, i64_w]
  rfl
 refine pure_ (i := 4) (N := (some 46)) (v := ?_) (a' := ?_) #[tt,tt,tt,ff,tt,ff,ff,ff,ff,ff,ff,ff,ff,ff,ff,ff,ff,ff,ff,ff,ff,ff] rfl rfl (any_of HT_.out (by kernel_rfl)) (fun _ _ _ h => h) (Or.inl ⟨by rfl, ?_⟩) ?_ ?_
 rotate_left
 ·intro w'
  go_simp
  with_reducible rfl
 rotate_left
 ·simp only [Act.put, sQ0, sQ1, sQ2, i64_w]
  rfl
 refine pure_ (i := 5) (N := (some 47)) (v := ?_) (a' := ?_) #[tt,tt,tt,ff,tt,tt,ff,ff,ff,ff,ff,ff,ff,ff,ff,ff,ff,ff,ff,ff,ff,ff] rfl rfl (any_of HT_.out (by kernel_rfl)) (fun _ _ _ h => h) (Or.inl ⟨by rfl, ?_⟩) ?_ ?_
 rotate_left
 ·intro w'
  go_simp
  with_reducible rfl
 rotate_left
 ·simp only [Act.put, sQ0, sQ1, sQ2, i64_w]
  rfl
 refine pure_ (i := 6) (N := (some 48)) (v := ?_) (a' := ?_) #[tt,tt,tt,ff,tt,tt,tt,ff,ff,ff,ff,ff,ff,ff,ff,ff,ff,ff,ff,ff,ff,ff] rfl rfl (any_of HT_.out (by kernel_rfl)) (fun _ _ _ h => h) (Or.inl ⟨by rfl, ?_⟩) ?_ ?_
 rotate_left
 ·intro w'
  go_simp
  with_reducible rfl
 rotate_left
 ·simp only [Act.put, sQ0, sQ1, sQ2, i64_w]
  rfl
 refine pure_ (i := 7) (N := (some 49)) (v := ?_) (a' := ?_) #[tt,tt,tt,ff,tt,tt,tt,tt,ff,ff,ff,ff,ff,ff,ff,ff,ff,ff,ff,ff,ff,ff] rfl rfl (any_of HT_.out (by kernel_rfl)) (fun _ _ _ h => h) (Or.inl ⟨by rfl, ?_⟩) ?_ ?_
 rotate_left
 ·intro w'
  go_simp
  with_reducible rfl
 rotate_left
 ·simp only [Act.put, sQ0, sQ1, sQ2, i64_w]
  rfl
 refine pure_ (i := 9) (N := (some 51)) (v := ?_) (a' := ?_) #[tt,tt,tt,ff,tt,tt,tt,tt,ff,tt,ff,ff,ff,ff,ff,ff,ff,ff,ff,ff,ff,ff] rfl rfl (any_of HT_.out (by kernel_rfl)) (fun _ _ _ h => h) (Or.inl ⟨by rfl, ?_⟩) ?_ ?_
 rotate_left
 ·intro w'
  go_simp
  with_reducible rfl
 rotate_left
 ·simp only [Act.put, sQ0, sQ1, sQ2, i64_w]
  rfl
 refine pure_ (i := 10) (N := (some 52)) (v := ?_) (a' := ?_) #[tt,tt,tt,ff,tt,tt,tt,tt,ff,tt,tt,ff,ff,ff,ff,ff,ff,ff,ff,ff,ff,ff] rfl rfl (any_of HT_.out (by kernel_rfl)) (fun _ _ _ h => h) (Or.inl ⟨by rfl, ?_⟩) ?_ ?_
 rotate_left
 ·intro w'
  go_simp
  with_reducible rfl
 rotate_left
 ·simp only [Act.put, sQ0, sQ1, sQ2, i64_w]
  rfl
 refine pure_ (i := 11) (N := (some 53)) (v := ?_) (a' := ?_) #[tt,tt,tt,ff,tt,tt,tt,tt,ff,tt,tt,tt,ff,ff,ff,ff,ff,ff,ff,ff,ff,ff] rfl rfl (any_of HT_.out (by kernel_rfl)) (fun _ _ _ h => h) (Or.inl ⟨by rfl, ?_⟩) ?_ ?_
 rotate_left
 ·intro w'
  go_simp
  with_reducible rfl
 rotate_left
 ·simp only [Act.put, sQ0, sQ1, sQ2, i64_w]
  rfl
 refine pure_ (i := 13) (N := (some 55)) (v := ?_) (a' := ?_) #[tt,tt,tt,ff,tt,tt,tt,tt,ff,tt,tt,tt,ff,tt,ff,ff,ff,ff,ff,ff,ff,ff] rfl rfl (any_of HT_.out (by kernel_rfl)) (fun _ _ _ h => h) (Or.inl ⟨by rfl, ?_⟩) ?_ ?_
 rotate_left
 ·intro w'
  go_simp
  with_reducible rfl
 rotate_left
 ·simp only [Act.put, sQ0, sQ1, sQ2, i64_w]
  rfl
 refine pure_ (i := 14) (N := (some 56)) (v := ?_) (a' := ?_) #[tt,tt,tt,ff,tt,tt,tt,tt,ff,tt,tt,tt,ff,tt,tt,ff,ff,ff,ff,ff,ff,ff] rfl rfl (any_of HT_.out (by kernel_rfl)) (fun _ _ _ h => h) (Or.inl ⟨by rfl, ?_⟩) ?_ ?_
 rotate_left
 ·intro w'
  go_simp
  with_reducible rfl
 rotate_left
 ·simp only [Act.put, sQ0, sQ1, sQ2, i64_w]
  rfl
 refine pure_ (i := 15) (N := (some 57)) (v := ?_) (a' := ?_) #[tt,tt,tt,ff,tt,tt,tt,tt,ff,tt,tt,tt,ff,tt,tt,tt,ff,ff,ff,ff,ff,ff] rfl rfl (any_of HT_.out (by kernel_rfl)) (fun _ _ _ h => h) (Or.inl ⟨by rfl, ?_⟩) ?_ ?_
 rotate_left
 ·intro w'
  go_simp
  with_reducible rfl
 rotate_left
 ·simp only [Act.put, sQ0, sQ1, sQ2, i64_w]
  rfl
 refine take_ (i := 3) (N := (some 45)) (v := ?_) (a' := ?_) #[tt,tt,tt,tt,tt,tt,tt,tt,ff,tt,tt,tt,ff,tt,tt,tt,ff,ff,ff,ff,ff,ff] rfl rfl (take_ofW HT_.out HW_.out (by kernel_rfl)) (fun _ _ _ h => h) (Or.inl ⟨by rfl, ?_⟩) hHeld ?_ ?_
 rotate_left
 ·rintro w' ⟨s0, s1, s2⟩
  go_simp
  with_reducible rfl
 rotate_left
 ·simp only [Act.put, sQ0, sQ1, sQ2, i64_w]
  rfl
 refine take_ (i := 8) (N := (some 50)) (v := ?_) (a' := ?_) #[tt,tt,tt,tt,tt,tt,tt,tt,tt,tt,tt,tt,ff,tt,tt,tt,ff,ff,ff,ff,ff,ff] rfl rfl (take_ofW HT_.out HW_.out (by kernel_rfl)) (fun _ _ _ h => h) (Or.inl ⟨by rfl, ?_⟩) hHeld ?_ ?_
 rotate_left
 ·rintro w' ⟨s0, s1, s2⟩
  go_simp
  with_reducible rfl
 rotate_left
 ·simp only [Act.put, sQ0, sQ1, sQ2, i64_w]
  rfl
 refine take_ (i := 12) (N := (some 54)) (v := ?_) (a' := ?_) #[tt,tt,tt,tt,tt,tt,tt,tt,tt,tt,tt,tt,tt,tt,tt,tt,ff,ff,ff,ff,ff,ff] rfl rfl (take_ofW HT_.out HW_.out (by kernel_rfl)) (fun _ _ _ h => h) (Or.inl ⟨by rfl, ?_⟩) hHeld ?_ ?_
 rotate_left
 ·rintro w' ⟨s0, s1, s2⟩
  go_simp
  with_reducible rfl
 rotate_left
 ·simp only [Act.put, sQ0, sQ1, sQ2, i64_w]
  rfl
 refine take_ (i := 16) (N := (some 58)) (v := ?_) (a' := ?_) #[tt,tt,tt,tt,tt,tt,tt,tt,tt,tt,tt,tt,tt,tt,tt,tt,tt,ff,ff,ff,ff,ff] rfl rfl (take_ofW HT_.out HW_.out (by kernel_rfl)) (fun _ _ _ h => h) (Or.inl ⟨by rfl, ?_⟩) hHeld ?_ ?_
 rotate_left
 ·rintro w' ⟨s0, s1, s2⟩
  go_simp
  with_reducible rfl
 rotate_left
 ·simp only [Act.put, sQ0, sQ1, sQ2, i64_w]
  rfl
 refine one_ (i := 17) (N := (some 59)) #[tt,tt,tt,tt,tt,tt,tt,tt,tt,tt,tt,tt,tt,tt,tt,tt,tt,tt,ff,ff,ff,ff] rfl rfl (one_of HT_.out (by kernel_rfl)) (by decide) (fun K hK => ?_)
 refine call_ (f := 41) #[pA mb] (by rfl) rfl (by go_simp <;> rfl) ?_
 refine (model_clock HJ5.out.bj.be.md).mono ?_
 rintro r w6 ⟨rfl, rfl⟩
 refine ⟨_, rfl, ?_⟩
 refine hK.out _ _ HJ5.out.cells (fun hHeld => ?_)
 clear hK K
 refine norm_ (a' := ?_) ?_ ?_
 rotate_left
 ·show Act.put _ (some 59) _ = _
  simp only [Act.put, sQ0, sQ1, sQ2, i64_w]
  rfl
 refine one_ (i := 18) (N := (some 60)) #[tt,tt,tt,tt,tt,tt,tt,tt,tt,tt,tt,tt,tt,tt,tt,tt,tt,tt,tt,ff,ff,ff] rfl rfl (one_of HT_.out (by kernel_rfl)) (by decide) (fun K hK => ?_)
 refine call_ (f := 95) #[.int .i64 e.t, .int .i64 iv.t, .int .i64 k.beg, .int .i64 s.m.clk] (by rfl) rfl (by go_simp <;> rfl) ?_
 refine (within_at _ _ _ _ w5).mono ?_
 rintro r w6 ⟨rfl, rfl⟩
 refine ⟨_, rfl, ?_⟩
 refine hK.out _ _ HJ5.out.cells (fun hHeld => ?_)
 clear hK K
 refine norm_ (a' := ?_) ?_ ?_
 rotate_left
 ·show Act.put _ (some 60) _ = _
  simp only [Act.put, sQ0, sQ1, sQ2, i64_w]
  rfl
 refine pure_ (i := 19) (N := (some 61)) (v := ?_) (a' := ?_) #[tt,tt,tt,tt,tt,tt,tt,tt,tt,tt,tt,tt,tt,tt,tt,tt,tt,tt,tt,tt,ff,ff] rfl rfl (any_of HT_.out (by kernel_rfl)) (fun _ _ _ h => h) (Or.inl ⟨by rfl, ?_⟩) ?_ ?_
 rotate_left
 ·intro w'
  go_simp
  with_reducible rfl
 rotate_left
 ·simp only [Act.put, sQ0, sQ1, sQ2, i64_w]
  rfl
 refine pure_ (i := 20) (N := (some 62)) (v := ?_) (a' := ?_) #[tt,tt,tt,tt,tt,tt,tt,tt,tt,tt,tt,tt,tt,tt,tt,tt,tt,tt,tt,tt,tt,ff] rfl rfl (any_of HT_.out (by kernel_rfl)) (fun _ _ _ h => h) (Or.inl ⟨by rfl, ?_⟩) ?_ ?_
 rotate_left
 ·intro w'
  go_simp
  with_reducible rfl
 rotate_left
 ·simp only [Act.put, sQ0, sQ1, sQ2, i64_w]
  rfl
 refine pure_ (i := 21) (N := (some 41)) (v := ?_) (a' := ?_) #[tt,tt,tt,tt,tt,tt,tt,tt,tt,tt,tt,tt,tt,tt,tt,tt,tt,tt,tt,tt,tt,tt] rfl rfl (any_of HT_.out (by kernel_rfl)) (fun _ _ _ h => h) (Or.inl ⟨by rfl, ?_⟩) ?_ ?_
 rotate_left
 ·intro w'
  go_simp
  with_reducible rfl
 rotate_left
 ·simp only [Act.put, sQ0, sQ1, sQ2, i64_w]
  rfl
 refine done_ (done_of HT_.out (by kernel_rfl)) ?_
 clear hHeld
 have hcb := fun i => HJ5.out.bj.be.cell i
 have hce := fun i => blk_cell HJ5.out.bj.eb_ i
 have hcg := fun i => blk_cell HJ5.out.gb i
 go_upto_region 7 with (fail)
 refine gen_world' (fun W => Wj w W B b n mb m1 m2 m3 s pf e w.heap.size g iv k.beg none) (by exact HJ5.out) fun w6 Hw6 => ?_
 have HJw6 := Aside0.mk Hw6
 clear Hw6
 clear hcb hce hcg hlb hle hlg
 have hcb := fun i => HJw6.out.bj.be.cell i
 have hce := fun i => blk_cell HJw6.out.bj.eb_ i
 have hcg := fun i => blk_cell HJw6.out.gb i
 have hlb := HJw6.out.bj.be.lt
 have hle := blk_lt HJw6.out.bj.eb_
 have hlg := blk_lt HJw6.out.gb
 refine start_ (n := 7) (S := (fun w' => (∀ i, w'.cell? ⟨b, i, none⟩ = (beA s.nw mb m3)[i]?) ∧ (∀ i, w'.cell? ⟨w.heap.size, i, none⟩ = (evA e)[i]?) ∧ (∀ i, w'.cell? ⟨g, i, none⟩ = (wkA iv k.beg none)[i]?))) (ds := [5]) #[ff,ff,ff,ff,ff,ff,ff] (by kernel_rfl) rfl rfl HJw6.out.drew.cells (fun hHeld => ?_)
 refine with_tabW bpR.tab7 bpR.bits7 (fun HT_ HW_ => ?_)
 have HJ7 := Aside0.mk HJw6.out.drew
 generalize w6.drew = w7 at HJ7 hHeld ⊢
 clear hcb hce hcg hlb hle hlg
 have hlb := HJ7.out.bj.be.lt
 have hle := blk_lt HJ7.out.bj.eb_
 have hlg := blk_lt HJ7.out.gb
 refine pure_ (i := 0) (N := (some 63)) (v := ?_) (a' := ?_) #[tt,ff,ff,ff,ff,ff,ff] rfl rfl (any_of HT_.out (by kernel_rfl)) (fun _ _ _ h => h) (Or.inl ⟨by rfl, ?_⟩) ?_ ?_
 rotate_left
 ·intro w'
  go_simp
  with_reducible rfl
 rotate_left
 ·simp only [Act.put, sQ0, sQ1, sQ2, i64_w]
  rfl
 refine pure_ (i := 1) (N := (some 64)) (v := ?_) (a' := ?_) #[tt,tt,ff,ff,ff,ff,ff] rfl rfl (any_of HT_.out (by kernel_rfl)) (fun _ _ _ h => h) (Or.inl ⟨by rfl, ?_⟩) ?_ ?_
 rotate_left
 ·intro w'
  go_simp
  with_reducible rfl
 rotate_left
 ·simp only [Act.put, sQ0, sQ1, sQ2, i64_w]
  rfl
 refine pure_ (i := 2) (N := (some 65)) (v := ?_) (a' := ?_) #[tt,tt,tt,ff,ff,ff,ff] rfl rfl (any_of HT_.out (by kernel_rfl)) (fun _ _ _ h => h) (Or.inl ⟨by rfl, ?_⟩) ?_ ?_
 rotate_left
 ·intro w'
  go_simp
  with_reducible rfl
 rotate_left
 ·simp only [Act.put, sQ0, sQ1, sQ2, i64_w]
  rfl
 refine take_ (i := 3) (N := (some 66)) (v := ?_) (a' := ?_) #[tt,tt,tt,tt,ff,ff,ff] rfl rfl (take_ofW HT_.out HW_.out (by kernel_rfl)) (fun _ _ _ h => h) (Or.inl ⟨by rfl, ?_⟩) hHeld ?_ ?_
 rotate_left
 ·rintro w' ⟨s0, s1, s2⟩
  go_simp
  with_reducible rfl
 rotate_left
 ·simp only [Act.put, sQ0, sQ1, sQ2, i64_w]
  rfl
 refine take_ (i := 4) (N := (some 67)) (v := ?_) (a' := ?_) #[tt,tt,tt,tt,tt,ff,ff] rfl rfl (take_ofW HT_.out HW_.out (by kernel_rfl)) (fun _ _ _ h => h) (Or.inl ⟨by rfl, ?_⟩) hHeld ?_ ?_
 rotate_left
 ·rintro w' ⟨s0, s1, s2⟩
  go_simp
  with_reducible rfl
 rotate_left
 ·simp only [Act.put, sQ0, sQ1, sQ2, i64_w]
  rfl
 refine last_ (i := 5) (N := (some 68)) #[tt,tt,tt,tt,tt,tt,ff] rfl rfl (one_of HT_.out (by kernel_rfl)) (by decide) (fun K hK => ?_)
 refine call_ (f := 43) #[pA mb, .agg (evA e)] (by rfl) rfl (by go_simp <;> rfl) ?_
 refine (do_any e HW.out HN.out HWL.out HJ7.out.bj.be.md).mono ?_
 rintro r w8 ⟨rfl, hm, hf⟩
 refine ⟨_, rfl, ?_⟩
 have HD := Aside0.mk (HJ7.out.model hm (by omega) hf)
 clear hm hf
 refine hK.out _ _ ?_
 clear hK K
 refine norm_ (a' := ?_) ?_ ?_
 rotate_left
 ·show Act.put _ (some 68) _ = _
  simp only [Act.put, sQ0, sQ1, sQ2, i64_w]
  rfl
 refine pure_ (i := 6) (N := (some 8)) (v := ?_) (a' := ?_) #[tt,tt,tt,tt,tt,tt,tt] rfl rfl (any_of HT_.out (by kernel_rfl)) (fun _ _ _ h => h) (Or.inl ⟨by rfl, ?_⟩) ?_ ?_
 rotate_left
 ·intro w'
  go_simp
  with_reducible rfl
 rotate_left
 ·simp only [Act.put, sQ0, sQ1, sQ2, i64_w]
  rfl
 refine done_ (done_of HT_.out (by kernel_rfl)) ?_
 clear hlb hle hlg
 have hcb := fun i => HD.out.bj.be.cell i
 have hce := fun i => blk_cell HD.out.bj.eb_ i
 have hcg := fun i => blk_cell HD.out.gb i
 have hlb := HD.out.bj.be.lt
 have hle := blk_lt HD.out.bj.eb_
 have hlg := blk_lt HD.out.gb
 have hfg := fun i => blk_frozen HD.out.gb i
 go_wp2
 go_ret
 have hE := do_end HD.out HK.out.1 HK.out.2.1 HK.out.2.2
 exact BePost.of HF.out (by first | exact HC.out | rfl) (hE.1.up (by omega)) hE.2
theorem bpoint_m3_fail {w : World} {B b n mb m1 m2 m3 g : Nat} {s : Be} {pf : Int → Option Nat} {k : Wk} (e iv : Ev) (hw : (Lit.int .i64 e.hn).wf = true ∧ (Lit.int .i64 e.hg).wf = true ∧ (Lit.int .i64 e.nn).wf = true ∧ (Lit.int .i64 e.ng).wf = true) (hn : n + 1 ≤ 1000000) (hwl : ∀ x, (Lit.int .i64 ((s.m.lst x).getD 0)).wf = true) (h : BeIs w B b n s mb m1 m2 m3 pf) (hB : B ≤ w.heap.size) (hk : s.wks e.wk = some k) (hp : pf e.wk = some g) (hgb : w.heap[g]? = some (.cells (wkA iv k.beg none) 119 (0, 0))) (hBg : B ≤ g) (hpt : k.pt = none) (hh : k.hn = iv.hn ∧ k.hg = iv.hg ∧ k.t = iv.t) (ho : e.op = 3) (h0 : e.er = 0) (hq : (e.hn == iv.hn && (e.hg == iv.hg)) = true) (hwb : (withinB e.t iv.t k.beg s.m.clk) = true) (hc : ¬ (doF s.m e).2 = 0) :
  Calls Try.prog 66 #[pA b, pA g, .agg (evA e)] w (BePost w B b n mb m1 m2 m3 (pointB s k e)) := by
 have hu0 := Try.underlying61
 have hu1 := Try.underlying34
 have hu2 := Try.underlying54
 have hu3 := Try.underlying119
 have HF := Aside0.mk (show pointB s k e = ({ s with m := (doF s.m e).1 }, (doF s.m e).2) by have hok : pointOk s k e = true := (by unfold pointOk; rw [hpt, hh.1, hh.2.1, hh.2.2]; rw [hq]; rw [hwb]; simp [ho, h0]); unfold pointB; rw [if_pos hok, if_neg hc])
 have q0 : (e.er == 0) = true := beq_iff_eq.2 (h0)
 have r0 : (e.er != 0) = false := bne_eq_false_iff_eq.2 (h0)
 have q1 : (e.op == 1) = false := beq_eq_false_iff_ne.2 (by omega)
 have r1 : (e.op != 1) = true := bne_iff_ne.2 (by omega)
 have q3 : (e.op == 3) = true := beq_iff_eq.2 (ho)
 have r3 : (e.op != 3) = false := bne_eq_false_iff_eq.2 (ho)
 have hq0 := hq
 have hw0 := hwb
 have c0 : ((doF s.m e).2 == 0) = false := beq_eq_false_iff_ne.2 (hc)
 have HW := Aside0.mk hw
 have HN := Aside0.mk hn
 have HWL := Aside0.mk hwl
 have HK := Aside0.mk (And.intro hk (And.intro hp hBg))
 have HJ := Aside0.mk (show Wj w (w.alloc (.cells (evA e) 54)) B b n mb m1 m2 m3 s pf e w.heap.size g iv k.beg none from ⟨Bj.start h hB e, blk_alloc hgb _⟩)
 clear hw hn hwl hk hp hBg h hB hgb hpt hh ho h0 hq hwb hc
 have hcb := fun i => HJ.out.bj.be.cell i
 have hce := fun i => blk_cell HJ.out.bj.eb_ i
 have hcg := fun i => blk_cell HJ.out.gb i
 have hlb := HJ.out.bj.be.lt
 have hle := blk_lt HJ.out.bj.eb_
 have hlg := blk_lt HJ.out.gb
 go_enter Try.func66, Try.ntmps66
 go_upto_region 3 with (fail)
 refine gen_world' (fun W => Wj w W B b n mb m1 m2 m3 s pf e w.heap.size g iv k.beg none) (by exact HJ.out) fun w3 Hw3 => ?_
 have HJw3 := Aside0.mk Hw3
 clear Hw3
 clear hcb hce hcg hlb hle hlg
 have hcb := fun i => HJw3.out.bj.be.cell i
 have hce := fun i => blk_cell HJw3.out.bj.eb_ i
 have hcg := fun i => blk_cell HJw3.out.gb i
 have hlb := HJw3.out.bj.be.lt
 have hle := blk_lt HJw3.out.bj.eb_
 have hlg := blk_lt HJw3.out.gb
 go_quiet (fail)
 go_upto_region 5 with (fail)
 refine gen_world' (fun W => Wj w W B b n mb m1 m2 m3 s pf e w.heap.size g iv k.beg none) (by exact HJw3.out.drewN _) fun w4 Hw4 => ?_
 have HJw4 := Aside0.mk Hw4
 clear Hw4
 clear hcb hce hcg hlb hle hlg
 have hcb := fun i => HJw4.out.bj.be.cell i
 have hce := fun i => blk_cell HJw4.out.bj.eb_ i
 have hcg := fun i => blk_cell HJw4.out.gb i
 have hlb := HJw4.out.bj.be.lt
 have hle := blk_lt HJw4.out.bj.eb_
 have hlg := blk_lt HJw4.out.gb
 refine start_ (n := 22) (S := (fun w' => (∀ i, w'.cell? ⟨b, i, none⟩ = (beA s.nw mb m3)[i]?) ∧ (∀ i, w'.cell? ⟨w.heap.size, i, none⟩ = (evA e)[i]?) ∧ (∀ i, w'.cell? ⟨g, i, none⟩ = (wkA iv k.beg none)[i]?))) (ds := []) #[ff,ff,ff,ff,ff,ff,ff,ff,ff,ff,ff,ff,ff,ff,ff,ff,ff,ff,ff,ff,ff,ff] (by kernel_rfl) rfl rfl HJw4.out.drew.cells (fun hHeld => ?_)
 refine with_tabW bpR.tab5 bpR.bits5 (fun HT_ HW_ => ?_)
 have HJ5 := Aside0.mk HJw4.out.drew
 generalize w4.drew = w5 at HJ5 hHeld ⊢
 clear hcb hce hcg hlb hle hlg
 have hlb := HJ5.out.bj.be.lt
 have hle := blk_lt HJ5.out.bj.eb_
 have hlg := blk_lt HJ5.out.gb
 refine pure_ (i := 0) (N := (some 42)) (v := ?_) (a' := ?_) #[tt,ff,ff,ff,ff,ff,ff,ff,ff,ff,ff,ff,ff,ff,ff,ff,ff,ff,ff,ff,ff,ff] rfl rfl (any_of HT_.out (by kernel_rfl)) (fun _ _ _ h => h) (Or.inl ⟨by rfl, ?_⟩) ?_ ?_
 rotate_left
 ·intro w'
  go_simp
  with_reducible rfl
 rotate_left
 ·simp only [Act.put, sQ0, sQ1, sQ2, i64_w]
  rfl
 refine pure_ (i := 1) (N := (some 43)) (v := ?_) (a' := ?_) #[tt,tt,ff,ff,ff,ff,ff,ff,ff,ff,ff,ff,ff,ff,ff,ff,ff,ff,ff,ff,ff,ff] rfl rfl (any_of HT_.out (by kernel_rfl)) (fun _ _ _ h => h) (Or.inl ⟨by rfl, ?_⟩) ?_ ?_
 rotate_left
 ·intro w'
  go_simp
  with_reducible rfl
 rotate_left
 ·simp only [Act.put, sQ0, sQ1, sQ2, i64_w]
  rfl
 refine pure_ (i := 2) (N := (some 44)) (v := ?_) (a' := ?_) #[tt,tt,tt,ff,ff,ff,ff,ff,ff,ff,ff,ff,ff,ff,ff,ff,ff,ff,ff,ff,ff,ff] rfl rfl (any_of HT_.out (by kernel_rfl)) (fun _ _ _ h => h) (Or.inl ⟨by rfl, ?_⟩) ?_ ?_
 rotate_left
 ·intro w'
  go_simp
  with_reducible rfl
 rotate_left
 ·simp only [Act.put, sQ0, sQ1, sQ2, i64_w]
  rfl
 refine pure_ (i := 4) (N := (some 46)) (v := ?_) (a' := ?_) #[tt,tt,tt,ff,tt,ff,ff,ff,ff,ff,ff,ff,ff,ff,ff,ff,ff,ff,ff,ff,ff,ff] rfl rfl (any_of HT_.out (by kernel_rfl)) (fun _ _ _ h => h) (Or.inl ⟨by rfl, ?_⟩) ?_ ?_
 rotate_left
 ·intro w'
  go_simp
  with_reducible rfl
 rotate_left
 ·simp only [Act.put, sQ0, sQ1, sQ2, i64_w]
  rfl
 refine pure_ (i := 5) (N := (some 47)) (v := ?_) (a' := ?_) #[tt,tt,tt,ff,tt,tt,ff,ff,ff,ff,ff,ff,ff,ff,ff,ff,ff,ff,ff,ff,ff,ff] rfl rfl (any_of HT_.out (by kernel_rfl)) (fun _ _ _ h => h) (Or.inl ⟨by rfl, ?_⟩) ?_ ?_
 rotate_left
 ·intro w'
  go_simp
  with_reducible rfl
 rotate_left
 ·simp only [Act.put, sQ0, sQ1, sQ2, i64_w]
  rfl
 refine pure_ (i := 6) (N := (some 48)) (v := ?_) (a' := ?_) #[tt,tt,tt,ff,tt,tt,tt,ff,ff,ff,ff,ff,ff,ff,ff,ff,ff,ff,ff,ff,ff,ff] rfl rfl (any_of HT_.out (by kernel_rfl)) (fun _ _ _ h => h) (Or.inl ⟨by rfl, ?_⟩) ?_ ?_
 rotate_left
 ·intro w'
  go_simp
  with_reducible rfl
 rotate_left
 ·simp only [Act.put, sQ0, sQ1, sQ2, i64_w]
  rfl
 refine pure_ (i := 7) (N := (some 49)) (v := ?_) (a' := ?_) #[tt,tt,tt,ff,tt,tt,tt,tt,ff,ff,ff,ff,ff,ff,ff,ff,ff,ff,ff,ff,ff,ff] rfl rfl (any_of HT_.out (by kernel_rfl)) (fun _ _ _ h => h) (Or.inl ⟨by rfl, ?_⟩) ?_ ?_
 rotate_left
 ·intro w'
  go_simp
  with_reducible rfl
 rotate_left
 ·simp only [Act.put, sQ0, sQ1, sQ2, i64_w]
  rfl
 refine pure_ (i := 9) (N := (some 51)) (v := ?_) (a' := ?_) #[tt,tt,tt,ff,tt,tt,tt,tt,ff,tt,ff,ff,ff,ff,ff,ff,ff,ff,ff,ff,ff,ff] rfl rfl (any_of HT_.out (by kernel_rfl)) (fun _ _ _ h => h) (Or.inl ⟨by rfl, ?_⟩) ?_ ?_
 rotate_left
 ·intro w'
  go_simp
  with_reducible rfl
 rotate_left
 ·simp only [Act.put, sQ0, sQ1, sQ2, i64_w]
  rfl
 refine pure_ (i := 10) (N := (some 52)) (v := ?_) (a' := ?_) #[tt,tt,tt,ff,tt,tt,tt,tt,ff,tt,tt,ff,ff,ff,ff,ff,ff,ff,ff,ff,ff,ff] rfl rfl (any_of HT_.out (by kernel_rfl)) (fun _ _ _ h => h) (Or.inl ⟨by rfl, ?_⟩) ?_ ?_
 rotate_left
 ·intro w'
  go_simp
  with_reducible rfl
 rotate_left
 ·simp only [Act.put, sQ0, sQ1, sQ2, i64_w]
  rfl
 refine pure_ (i := 11) (N := (some 53)) (v := ?_) (a' := ?_) #[tt,tt,tt,ff,tt,tt,tt,tt,ff,tt,tt,tt,ff,ff,ff,ff,ff,ff,ff,ff,ff,ff] rfl rfl (any_of HT_.out (by kernel_rfl)) (fun _ _ _ h => h) (Or.inl ⟨by rfl, ?_⟩) ?_ ?_
 rotate_left
 ·intro w'
  go_simp
  with_reducible rfl
 rotate_left
 ·simp only [Act.put, sQ0, sQ1, sQ2, i64_w]
  rfl
 refine pure_ (i := 13) (N := (some 55)) (v := ?_) (a' := ?_) #[tt,tt,tt,ff,tt,tt,tt,tt,ff,tt,tt,tt,ff,tt,ff,ff,ff,ff,ff,ff,ff,ff] rfl rfl (any_of HT_.out (by kernel_rfl)) (fun _ _ _ h => h) (Or.inl ⟨by rfl, ?_⟩) ?_ ?_
 rotate_left
 ·intro w'
  go_simp
  with_reducible rfl
 rotate_left
 ·simp only [Act.put, sQ0, sQ1, sQ2, i64_w]
  rfl
 refine pure_ (i := 14) (N := (some 56)) (v := ?_) (a' := ?_) #[tt,tt,tt,ff,tt,tt,tt,tt,ff,tt,tt,tt,ff,tt,tt,ff,ff,ff,ff,ff,ff,ff] rfl rfl (any_of HT_.out (by kernel_rfl)) (fun _ _ _ h => h) (Or.inl ⟨by rfl, ?_⟩) ?_ ?_
 rotate_left
 ·intro w'
  go_simp
  with_reducible rfl
 rotate_left
 ·simp only [Act.put, sQ0, sQ1, sQ2, i64_w]
  rfl
 refine pure_ (i := 15) (N := (some 57)) (v := ?_) (a' := ?_) #[tt,tt,tt,ff,tt,tt,tt,tt,ff,tt,tt,tt,ff,tt,tt,tt,ff,ff,ff,ff,ff,ff] rfl rfl (any_of HT_.out (by kernel_rfl)) (fun _ _ _ h => h) (Or.inl ⟨by rfl, ?_⟩) ?_ ?_
 rotate_left
 ·intro w'
  go_simp
  with_reducible rfl
 rotate_left
 ·simp only [Act.put, sQ0, sQ1, sQ2, i64_w]
  rfl
 refine take_ (i := 3) (N := (some 45)) (v := ?_) (a' := ?_) #[tt,tt,tt,tt,tt,tt,tt,tt,ff,tt,tt,tt,ff,tt,tt,tt,ff,ff,ff,ff,ff,ff] rfl rfl (take_ofW HT_.out HW_.out (by kernel_rfl)) (fun _ _ _ h => h) (Or.inl ⟨by rfl, ?_⟩) hHeld ?_ ?_
 rotate_left
 ·rintro w' ⟨s0, s1, s2⟩
  go_simp
  with_reducible rfl
 rotate_left
 ·simp only [Act.put, sQ0, sQ1, sQ2, i64_w]
  rfl
 refine take_ (i := 8) (N := (some 50)) (v := ?_) (a' := ?_) #[tt,tt,tt,tt,tt,tt,tt,tt,tt,tt,tt,tt,ff,tt,tt,tt,ff,ff,ff,ff,ff,ff] rfl rfl (take_ofW HT_.out HW_.out (by kernel_rfl)) (fun _ _ _ h => h) (Or.inl ⟨by rfl, ?_⟩) hHeld ?_ ?_
 rotate_left
 ·rintro w' ⟨s0, s1, s2⟩
  go_simp
  with_reducible rfl
 rotate_left
 ·simp only [Act.put, sQ0, sQ1, sQ2, i64_w]
  rfl
 refine take_ (i := 12) (N := (some 54)) (v := ?_) (a' := ?_) #[tt,tt,tt,tt,tt,tt,tt,tt,tt,tt,tt,tt,tt,tt,tt,tt,ff,ff,ff,ff,ff,ff] rfl rfl (take_ofW HT_.out HW_.out (by kernel_rfl)) (fun _ _ _ h => h) (Or.inl ⟨by rfl, ?_⟩) hHeld ?_ ?_
 rotate_left
 ·rintro w' ⟨s0, s1, s2⟩
  go_simp
  with_reducible rfl
 rotate_left
 ·simp only [Act.put, sQ0, sQ1, sQ2, i64_w]
  rfl
 refine take_ (i := 16) (N := (some 58)) (v := ?_) (a' := ?_) #[tt,tt,tt,tt,tt,tt,tt,tt,tt,tt,tt,tt,tt,tt,tt,tt,tt,ff,ff,ff,ff,ff] rfl rfl (take_ofW HT_.out HW_.out (by kernel_rfl)) (fun _ _ _ h => h) (Or.inl ⟨by rfl, ?_⟩) hHeld ?_ ?_
 rotate_left
 ·rintro w' ⟨s0, s1, s2⟩
  go_simp
  with_reducible rfl
 rotate_left
 ·simp only [Act.put, sQ0, sQ1, sQ2, i64_w]
  rfl
 refine one_ (i := 17) (N := (some 59)) #[tt,tt,tt,tt,tt,tt,tt,tt,tt,tt,tt,tt,tt,tt,tt,tt,tt,tt,ff,ff,ff,ff] rfl rfl (one_of HT_.out (by kernel_rfl)) (by decide) (fun K hK => ?_)
 refine call_ (f := 41) #[pA mb] (by rfl) rfl (by go_simp <;> rfl) ?_
 refine (model_clock HJ5.out.bj.be.md).mono ?_
 rintro r w6 ⟨rfl, rfl⟩
 refine ⟨_, rfl, ?_⟩
 refine hK.out _ _ HJ5.out.cells (fun hHeld => ?_)
 clear hK K
 refine norm_ (a' := ?_) ?_ ?_
 rotate_left
 ·show Act.put _ (some 59) _ = _
  simp only [Act.put, sQ0, sQ1, sQ2, i64_w]
  rfl
 refine one_ (i := 18) (N := (some 60)) #[tt,tt,tt,tt,tt,tt,tt,tt,tt,tt,tt,tt,tt,tt,tt,tt,tt,tt,tt,ff,ff,ff] rfl rfl (one_of HT_.out (by kernel_rfl)) (by decide) (fun K hK => ?_)
 refine call_ (f := 95) #[.int .i64 e.t, .int .i64 iv.t, .int .i64 k.beg, .int .i64 s.m.clk] (by rfl) rfl (by go_simp <;> rfl) ?_
 refine (within_at _ _ _ _ w5).mono ?_
 rintro r w6 ⟨rfl, rfl⟩
 refine ⟨_, rfl, ?_⟩
 refine hK.out _ _ HJ5.out.cells (fun hHeld => ?_)
 clear hK K
 refine norm_ (a' := ?_) ?_ ?_
 rotate_left
 ·show Act.put _ (some 60) _ = _
  simp only [Act.put, sQ0, sQ1, sQ2, i64_w]
  rfl
 refine pure_ (i := 19) (N := (some 61)) (v := ?_) (a' := ?_) #[tt,tt,tt,tt,tt,tt,tt,tt,tt,tt,tt,tt,tt,tt,tt,tt,tt,tt,tt,tt,ff,ff] rfl rfl (any_of HT_.out (by kernel_rfl)) (fun _ _ _ h => h) (Or.inl ⟨by rfl, ?_⟩) ?_ ?_
 rotate_left
 ·intro w'
  go_simp
  with_reducible rfl
 rotate_left
 ·simp only [Act.put, sQ0, sQ1, sQ2, i64_w]
  rfl
 refine pure_ (i := 20) (N := (some 62)) (v := ?_) (a' := ?_) #[tt,tt,tt,tt,tt,tt,tt,tt,tt,tt,tt,tt,tt,tt,tt,tt,tt,tt,tt,tt,tt,ff] rfl rfl (any_of HT_.out (by kernel_rfl)) (fun _ _ _ h => h) (Or.inl ⟨by rfl, ?_⟩) ?_ ?_
 rotate_left
 ·intro w'
  go_simp
  with_reducible rfl
 rotate_left
 ·simp only [Act.put, sQ0, sQ1, sQ2, i64_w]
  rfl
 refine pure_ (i := 21) (N := (some 41)) (v := ?_) (a' := ?_) #[tt,tt,tt,tt,tt,tt,tt,tt,tt,tt,tt,tt,tt,tt,tt,tt,tt,tt,tt,tt,tt,tt] rfl rfl (any_of HT_.out (by kernel_rfl)) (fun _ _ _ h => h) (Or.inl ⟨by rfl, ?_⟩) ?_ ?_
 rotate_left
 ·intro w'
  go_simp
  with_reducible rfl
 rotate_left
 ·simp only [Act.put, sQ0, sQ1, sQ2, i64_w]
  rfl
 refine done_ (done_of HT_.out (by kernel_rfl)) ?_
 clear hHeld
 have hcb := fun i => HJ5.out.bj.be.cell i
 have hce := fun i => blk_cell HJ5.out.bj.eb_ i
 have hcg := fun i => blk_cell HJ5.out.gb i
 go_upto_region 7 with (fail)
 refine gen_world' (fun W => Wj w W B b n mb m1 m2 m3 s pf e w.heap.size g iv k.beg none) (by exact HJ5.out) fun w6 Hw6 => ?_
 have HJw6 := Aside0.mk Hw6
 clear Hw6
 clear hcb hce hcg hlb hle hlg
 have hcb := fun i => HJw6.out.bj.be.cell i
 have hce := fun i => blk_cell HJw6.out.bj.eb_ i
 have hcg := fun i => blk_cell HJw6.out.gb i
 have hlb := HJw6.out.bj.be.lt
 have hle := blk_lt HJw6.out.bj.eb_
 have hlg := blk_lt HJw6.out.gb
 refine start_ (n := 7) (S := (fun w' => (∀ i, w'.cell? ⟨b, i, none⟩ = (beA s.nw mb m3)[i]?) ∧ (∀ i, w'.cell? ⟨w.heap.size, i, none⟩ = (evA e)[i]?) ∧ (∀ i, w'.cell? ⟨g, i, none⟩ = (wkA iv k.beg none)[i]?))) (ds := [5]) #[ff,ff,ff,ff,ff,ff,ff] (by kernel_rfl) rfl rfl HJw6.out.drew.cells (fun hHeld => ?_)
 refine with_tabW bpR.tab7 bpR.bits7 (fun HT_ HW_ => ?_)
 have HJ7 := Aside0.mk HJw6.out.drew
 generalize w6.drew = w7 at HJ7 hHeld ⊢
 clear hcb hce hcg hlb hle hlg
 have hlb := HJ7.out.bj.be.lt
 have hle := blk_lt HJ7.out.bj.eb_
 have hlg := blk_lt HJ7.out.gb
 refine pure_ (i := 0) (N := (some 63)) (v := ?_) (a' := ?_) #[tt,ff,ff,ff,ff,ff,ff] rfl rfl (any_of HT_.out (by kernel_rfl)) (fun _ _ _ h => h) (Or.inl ⟨by rfl, ?_⟩) ?_ ?_
 rotate_left
 ·intro w'
  go_simp
  with_reducible rfl
 rotate_left
 ·simp only [Act.put, sQ0, sQ1, sQ2, i64_w]
  rfl
 refine pure_ (i := 1) (N := (some 64)) (v := ?_) (a' := ?_) #[tt,tt,ff,ff,ff,ff,ff] rfl rfl (any_of HT_.out (by kernel_rfl)) (fun _ _ _ h => h) (Or.inl ⟨by rfl, ?_⟩) ?_ ?_
 rotate_left
 ·intro w'
  go_simp
  with_reducible rfl
 rotate_left
 ·simp only [Act.put, sQ0, sQ1, sQ2, i64_w]
  rfl
 refine pure_ (i := 2) (N := (some 65)) (v := ?_) (a' := ?_) #[tt,tt,tt,ff,ff,ff,ff] rfl rfl (any_of HT_.out (by kernel_rfl)) (fun _ _ _ h => h) (Or.inl ⟨by rfl, ?_⟩) ?_ ?_
 rotate_left
 ·intro w'
  go_simp
  with_reducible rfl
 rotate_left
 ·simp only [Act.put, sQ0, sQ1, sQ2, i64_w]
  rfl
 refine take_ (i := 3) (N := (some 66)) (v := ?_) (a' := ?_) #[tt,tt,tt,tt,ff,ff,ff] rfl rfl (take_ofW HT_.out HW_.out (by kernel_rfl)) (fun _ _ _ h => h) (Or.inl ⟨by rfl, ?_⟩) hHeld ?_ ?_
 rotate_left
 ·rintro w' ⟨s0, s1, s2⟩
  go_simp
  with_reducible rfl
 rotate_left
 ·simp only [Act.put, sQ0, sQ1, sQ2, i64_w]
  rfl
 refine take_ (i := 4) (N := (some 67)) (v := ?_) (a' := ?_) #[tt,tt,tt,tt,tt,ff,ff] rfl rfl (take_ofW HT_.out HW_.out (by kernel_rfl)) (fun _ _ _ h => h) (Or.inl ⟨by rfl, ?_⟩) hHeld ?_ ?_
 rotate_left
 ·rintro w' ⟨s0, s1, s2⟩
  go_simp
  with_reducible rfl
 rotate_left
 ·simp only [Act.put, sQ0, sQ1, sQ2, i64_w]
  rfl
 refine last_ (i := 5) (N := (some 68)) #[tt,tt,tt,tt,tt,tt,ff] rfl rfl (one_of HT_.out (by kernel_rfl)) (by decide) (fun K hK => ?_)
 refine call_ (f := 43) #[pA mb, .agg (evA e)] (by rfl) rfl (by go_simp <;> rfl) ?_
 refine (do_any e HW.out HN.out HWL.out HJ7.out.bj.be.md).mono ?_
 rintro r w8 ⟨rfl, hm, hf⟩
 refine ⟨_, rfl, ?_⟩
 have HD := Aside0.mk (HJ7.out.model hm (by omega) hf)
 clear hm hf
 refine hK.out _ _ ?_
 clear hK K
 refine norm_ (a' := ?_) ?_ ?_
 rotate_left
 ·show Act.put _ (some 68) _ = _
  simp only [Act.put, sQ0, sQ1, sQ2, i64_w]
  rfl
 refine pure_ (i := 6) (N := (some 8)) (v := ?_) (a' := ?_) #[tt,tt,tt,tt,tt,tt,tt] rfl rfl (any_of HT_.out (by kernel_rfl)) (fun _ _ _ h => h) (Or.inl ⟨by rfl, ?_⟩) ?_ ?_
 rotate_left
 ·intro w'
  go_simp
  with_reducible rfl
 rotate_left
 ·simp only [Act.put, sQ0, sQ1, sQ2, i64_w]
  rfl
 refine done_ (done_of HT_.out (by kernel_rfl)) ?_
 clear hlb hle hlg
 have hcb := fun i => HD.out.bj.be.cell i
 have hce := fun i => blk_cell HD.out.bj.eb_ i
 have hcg := fun i => blk_cell HD.out.gb i
 have hlb := HD.out.bj.be.lt
 have hle := blk_lt HD.out.bj.eb_
 have hlg := blk_lt HD.out.gb
 have hfg := fun i => blk_frozen HD.out.gb i
 go_wp2
 go_ret
 exact BePost.of HF.out rfl (HD.out.bj.be.up (by omega)) HD.out.bj.bel
theorem bpoint_n0x_no {w : World} {B b n mb m1 m2 m3 g : Nat} {s : Be} {pf : Int → Option Nat} {k : Wk} (e iv : Ev) (hw : (Lit.int .i64 e.hn).wf = true ∧ (Lit.int .i64 e.hg).wf = true ∧ (Lit.int .i64 e.nn).wf = true ∧ (Lit.int .i64 e.ng).wf = true) (hn : n + 1 ≤ 1000000) (hwl : ∀ x, (Lit.int .i64 ((s.m.lst x).getD 0)).wf = true) (h : BeIs w B b n s mb m1 m2 m3 pf) (hB : B ≤ w.heap.size) (hk : s.wks e.wk = some k) (hp : pf e.wk = some g) (hgb : w.heap[g]? = some (.cells (wkA iv k.beg none) 119 (0, 0))) (hBg : B ≤ g) (hpt : k.pt = none) (hh : k.hn = iv.hn ∧ k.hg = iv.hg ∧ k.t = iv.t) (n1 : ¬ e.op = 1) (h0 : ¬ e.er = 0) (hq : (e.hn == iv.hn && (e.hg == iv.hg)) = false) :
  Calls Try.prog 66 #[pA b, pA g, .agg (evA e)] w (BePost w B b n mb m1 m2 m3 (pointB s k e)) := by
 have hu0 := Try.underlying61
 have hu1 := Try.underlying34
 have hu2 := Try.underlying54
 have hu3 := Try.underlying119
 have HF := Aside0.mk (show pointB s k e = (s, 6) by unfold pointB pointOk; rw [hpt, hh.1, hh.2.1, hh.2.2]; rw [hq]; simp [n1, h0])
 have q0 : (e.er == 0) = false := beq_eq_false_iff_ne.2 (h0)
 have r0 : (e.er != 0) = true := bne_iff_ne.2 (h0)
 have q1 : (e.op == 1) = false := beq_eq_false_iff_ne.2 (n1)
 have r1 : (e.op != 1) = true := bne_iff_ne.2 (n1)
 have hq0 := hq
 have HW := Aside0.mk hw
 have HN := Aside0.mk hn
 have HWL := Aside0.mk hwl
 have HK := Aside0.mk (And.intro hk (And.intro hp hBg))
 have HJ := Aside0.mk (show Wj w (w.alloc (.cells (evA e) 54)) B b n mb m1 m2 m3 s pf e w.heap.size g iv k.beg none from ⟨Bj.start h hB e, blk_alloc hgb _⟩)
 clear hw hn hwl hk hp hBg h hB hgb hpt hh n1 h0 hq
 have hcb := fun i => HJ.out.bj.be.cell i
 have hce := fun i => blk_cell HJ.out.bj.eb_ i
 have hcg := fun i => blk_cell HJ.out.gb i
 have hlb := HJ.out.bj.be.lt
 have hle := blk_lt HJ.out.bj.eb_
 have hlg := blk_lt HJ.out.gb
 go_enter Try.func66, Try.ntmps66
 go_upto_region 3 with (fail)
 refine gen_world' (fun W => Wj w W B b n mb m1 m2 m3 s pf e w.heap.size g iv k.beg none) (by exact HJ.out) fun w3 Hw3 => ?_
 have HJw3 := Aside0.mk Hw3
 clear Hw3
 clear hcb hce hcg hlb hle hlg
 have hcb := fun i => HJw3.out.bj.be.cell i
 have hce := fun i => blk_cell HJw3.out.bj.eb_ i
 have hcg := fun i => blk_cell HJw3.out.gb i
 have hlb := HJw3.out.bj.be.lt
 have hle := blk_lt HJw3.out.bj.eb_
 have hlg := blk_lt HJw3.out.gb
 go_quiet (fail)
 go_wp2
 go_ret
 exact BePost.of HF.out rfl ((HJw3.out.drewN _).bj.be.up (by omega)) (HJw3.out.drewN _).bj.bel
theorem bpoint_n0x_ok {w : World} {B b n mb m1 m2 m3 g : Nat} {s : Be} {pf : Int → Option Nat} {k : Wk} (e iv : Ev) (hw : (Lit.int .i64 e.hn).wf = true ∧ (Lit.int .i64 e.hg).wf = true ∧ (Lit.int .i64 e.nn).wf = true ∧ (Lit.int .i64 e.ng).wf = true) (hn : n + 1 ≤ 1000000) (hwl : ∀ x, (Lit.int .i64 ((s.m.lst x).getD 0)).wf = true) (h : BeIs w B b n s mb m1 m2 m3 pf) (hB : B ≤ w.heap.size) (hk : s.wks e.wk = some k) (hp : pf e.wk = some g) (hgb : w.heap[g]? = some (.cells (wkA iv k.beg none) 119 (0, 0))) (hBg : B ≤ g) (hpt : k.pt = none) (hh : k.hn = iv.hn ∧ k.hg = iv.hg ∧ k.t = iv.t) (n1 : ¬ e.op = 1) (h0 : ¬ e.er = 0) (hq : (e.hn == iv.hn && (e.hg == iv.hg)) = true) (hc : (doF s.m e).2 = 0) :
  Calls Try.prog 66 #[pA b, pA g, .agg (evA e)] w (BePost w B b n mb m1 m2 m3 (pointB s k e)) := by
 have hu0 := Try.underlying61
 have hu1 := Try.underlying34
 have hu2 := Try.underlying54
 have hu3 := Try.underlying119
 have HF := Aside0.mk (show pointB s k e = ({ s with m := (doF s.m e).1, wks := updW s.wks e.wk (some { k with pt := some (ptOf e) }) }, 0) by have hok : pointOk s k e = true := (by unfold pointOk; rw [hpt, hh.1, hh.2.1, hh.2.2]; rw [hq]; simp [n1, h0]); unfold pointB; rw [if_pos hok, if_pos hc])
 have q0 : (e.er == 0) = false := beq_eq_false_iff_ne.2 (h0)
 have r0 : (e.er != 0) = true := bne_iff_ne.2 (h0)
 have q1 : (e.op == 1) = false := beq_eq_false_iff_ne.2 (n1)
 have r1 : (e.op != 1) = true := bne_iff_ne.2 (n1)
 have hq0 := hq
 have c0 : ((doF s.m e).2 == 0) = true := beq_iff_eq.2 (hc)
 have HC := Aside0.mk hc
 have HW := Aside0.mk hw
 have HN := Aside0.mk hn
 have HWL := Aside0.mk hwl
 have HK := Aside0.mk (And.intro hk (And.intro hp hBg))
 have HJ := Aside0.mk (show Wj w (w.alloc (.cells (evA e) 54)) B b n mb m1 m2 m3 s pf e w.heap.size g iv k.beg none from ⟨Bj.start h hB e, blk_alloc hgb _⟩)
 clear hw hn hwl hk hp hBg h hB hgb hpt hh n1 h0 hq hc
 have hcb := fun i => HJ.out.bj.be.cell i
 have hce := fun i => blk_cell HJ.out.bj.eb_ i
 have hcg := fun i => blk_cell HJ.out.gb i
 have hlb := HJ.out.bj.be.lt
 have hle := blk_lt HJ.out.bj.eb_
 have hlg := blk_lt HJ.out.gb
 go_enter Try.func66, Try.ntmps66
 go_upto_region 3 with (fail)
 refine gen_world' (fun W => Wj w W B b n mb m1 m2 m3 s pf e w.heap.size g iv k.beg none) (by exact HJ.out) fun w3 Hw3 => ?_
 have HJw3 := Aside0.mk Hw3
 clear Hw3
 clear hcb hce hcg hlb hle hlg
 have hcb := fun i => HJw3.out.bj.be.cell i
 have hce := fun i => blk_cell HJw3.out.bj.eb_ i
 have hcg := fun i => blk_cell HJw3.out.gb i
 have hlb := HJw3.out.bj.be.lt
 have hle := blk_lt HJw3.out.bj.eb_
 have hlg := blk_lt HJw3.out.gb
 go_quiet (fail)
 go_upto_region 5 with (fail)
 refine gen_world' (fun W => Wj w W B b n mb m1 m2 m3 s pf e w.heap.size g iv k.beg none) (by exact HJw3.out.drewN _) fun w4 Hw4 => ?_
 have HJw4 := Aside0.mk Hw4
 clear Hw4
 clear hcb hce hcg hlb hle hlg
 have hcb := fun i => HJw4.out.bj.be.cell i
 have hce := fun i => blk_cell HJw4.out.bj.eb_ i
 have hcg := fun i => blk_cell HJw4.out.gb i
 have hlb := HJw4.out.bj.be.lt
 have hle := blk_lt HJw4.out.bj.eb_
 have hlg := blk_lt HJw4.out.gb
 go_quiet (fail)
 go_upto_region 7 with (fail)
 refine gen_world' (fun W => Wj w W B b n mb m1 m2 m3 s pf e w.heap.size g iv k.beg none) (by exact HJw4.out.drewN _) fun w6 Hw6 => ?_
 have HJw6 := Aside0.mk Hw6
 clear Hw6
 clear hcb hce hcg hlb hle hlg
 have hcb := fun i => HJw6.out.bj.be.cell i
 have hce := fun i => blk_cell HJw6.out.bj.eb_ i
 have hcg := fun i => blk_cell HJw6.out.gb i
 have hlb := HJw6.out.bj.be.lt
 have hle := blk_lt HJw6.out.bj.eb_
 have hlg := blk_lt HJw6.out.gb
 refine start_ (n := 7) (S := (fun w' => (∀ i, w'.cell? ⟨b, i, none⟩ = (beA s.nw mb m3)[i]?) ∧ (∀ i, w'.cell? ⟨w.heap.size, i, none⟩ = (evA e)[i]?) ∧ (∀ i, w'.cell? ⟨g, i, none⟩ = (wkA iv k.beg none)[i]?))) (ds := [5]) #[ff,ff,ff,ff,ff,ff,ff] (by kernel_rfl) rfl rfl HJw6.out.drew.cells (fun hHeld => ?_)
 refine with_tabW bpR.tab7 bpR.bits7 (fun HT_ HW_ => ?_)
 have HJ7 := Aside0.mk HJw6.out.drew
 generalize w6.drew = w7 at HJ7 hHeld ⊢
 clear hcb hce hcg hlb hle hlg
 have hlb := HJ7.out.bj.be.lt
 have hle := blk_lt HJ7.out.bj.eb_
 have hlg := blk_lt HJ7.out.gb
 refine pure_ (i := 0) (N := (some 63)) (v := ?_) (a' := ?_) #[tt,ff,ff,ff,ff,ff,ff] rfl rfl (any_of HT_.out (by kernel_rfl)) (fun _ _ _ h => h) (Or.inl ⟨by rfl, ?_⟩) ?_ ?_
 rotate_left
 ·intro w'
  go_simp
  with_reducible rfl
 rotate_left
 ·simp only [Act.put, sQ0, sQ1, sQ2, i64_w]
  rfl
 refine pure_ (i := 1) (N := (some 64)) (v := ?_) (a' := ?_) #[tt,tt,ff,ff,ff,ff,ff] rfl rfl (any_of HT_.out (by kernel_rfl)) (fun _ _ _ h => h) (Or.inl ⟨by rfl, ?_⟩) ?_ ?_
 rotate_left
 ·intro w'
  go_simp
  with_reducible rfl
 rotate_left
 ·simp only [Act.put, sQ0, sQ1, sQ2, i64_w]
  rfl
 refine pure_ (i := 2) (N := (some 65)) (v := ?_) (a' := ?_) #[tt,tt,tt,ff,ff,ff,ff] rfl rfl (any_of HT_.out (by kernel_rfl)) (fun _ _ _ h => h) (Or.inl ⟨by rfl, ?_⟩) ?_ ?_
 rotate_left
 ·intro w'
  go_simp
  with_reducible rfl
 rotate_left
 ·simp only [Act.put, sQ0, sQ1, sQ2, i64_w]
  rfl
 refine take_ (i := 3) (N := (some 66)) (v := ?_) (a' := ?_) #[tt,tt,tt,tt,ff,ff,ff] rfl rfl (take_ofW HT_.out HW_.out (by kernel_rfl)) (fun _ _ _ h => h) (Or.inl ⟨by rfl, ?_⟩) hHeld ?_ ?_
 rotate_left
 ·rintro w' ⟨s0, s1, s2⟩
  go_simp
  with_reducible rfl
 rotate_left
 ·simp only [Act.put, sQ0, sQ1, sQ2, i64_w]
  rfl
 refine take_ (i := 4) (N := (some 67)) (v := ?_) (a' := ?_) #[tt,tt,tt,tt,tt,ff,ff] rfl rfl (take_ofW HT_.out HW_.out (by kernel_rfl)) (fun _ _ _ h => h) (Or.inl ⟨by rfl, ?_⟩) hHeld ?_ ?_
 rotate_left
 ·rintro w' ⟨s0, s1, s2⟩
  go_simp
  with_reducible rfl
 rotate_left
 ·simp only [Act.put, sQ0, sQ1, sQ2, i64_w]
  rfl
 refine last_ (i := 5) (N := (some 68)) #[tt,tt,tt,tt,tt,tt,ff] rfl rfl (one_of HT_.out (by kernel_rfl)) (by decide) (fun K hK => ?_)
 refine call_ (f := 43) #[pA mb, .agg (evA e)] (by rfl) rfl (by go_simp <;> rfl) ?_
 refine (do_any e HW.out HN.out HWL.out HJ7.out.bj.be.md).mono ?_
 rintro r w8 ⟨rfl, hm, hf⟩
 refine ⟨_, rfl, ?_⟩
 have HD := Aside0.mk (HJ7.out.model hm (by omega) hf)
 clear hm hf
 refine hK.out _ _ ?_
 clear hK K
 refine norm_ (a' := ?_) ?_ ?_
 rotate_left
 ·show Act.put _ (some 68) _ = _
  simp only [Act.put, sQ0, sQ1, sQ2, i64_w]
  rfl
 refine pure_ (i := 6) (N := (some 8)) (v := ?_) (a' := ?_) #[tt,tt,tt,tt,tt,tt,tt] rfl rfl (any_of HT_.out (by kernel_rfl)) (fun _ _ _ h => h) (Or.inl ⟨by rfl, ?_⟩) ?_ ?_
 rotate_left
 ·intro w'
  go_simp
  with_reducible rfl
 rotate_left
 ·simp only [Act.put, sQ0, sQ1, sQ2, i64_w]
  rfl
 refine done_ (done_of HT_.out (by kernel_rfl)) ?_
 clear hlb hle hlg
 have hcb := fun i => HD.out.bj.be.cell i
 have hce := fun i => blk_cell HD.out.bj.eb_ i
 have hcg := fun i => blk_cell HD.out.gb i
 have hlb := HD.out.bj.be.lt
 have hle := blk_lt HD.out.bj.eb_
 have hlg := blk_lt HD.out.gb
 have hfg := fun i => blk_frozen HD.out.gb i
 go_wp2
 go_ret
 have hE := do_end HD.out HK.out.1 HK.out.2.1 HK.out.2.2
 exact BePost.of HF.out (by first | exact HC.out | rfl) (hE.1.up (by omega)) hE.2
theorem bpoint_n0x_fail {w : World} {B b n mb m1 m2 m3 g : Nat} {s : Be} {pf : Int → Option Nat} {k : Wk} (e iv : Ev) (hw : (Lit.int .i64 e.hn).wf = true ∧ (Lit.int .i64 e.hg).wf = true ∧ (Lit.int .i64 e.nn).wf = true ∧ (Lit.int .i64 e.ng).wf = true) (hn : n + 1 ≤ 1000000) (hwl : ∀ x, (Lit.int .i64 ((s.m.lst x).getD 0)).wf = true) (h : BeIs w B b n s mb m1 m2 m3 pf) (hB : B ≤ w.heap.size) (hk : s.wks e.wk = some k) (hp : pf e.wk = some g) (hgb : w.heap[g]? = some (.cells (wkA iv k.beg none) 119 (0, 0))) (hBg : B ≤ g) (hpt : k.pt = none) (hh : k.hn = iv.hn ∧ k.hg = iv.hg ∧ k.t = iv.t) (n1 : ¬ e.op = 1) (h0 : ¬ e.er = 0) (hq : (e.hn == iv.hn && (e.hg == iv.hg)) = true) (hc : ¬ (doF s.m e).2 = 0) :
  Calls Try.prog 66 #[pA b, pA g, .agg (evA e)] w (BePost w B b n mb m1 m2 m3 (pointB s k e)) := by
 have hu0 := Try.underlying61
 have hu1 := Try.underlying34
 have hu2 := Try.underlying54
 have hu3 := Try.underlying119
 have HF := Aside0.mk (show pointB s k e = ({ s with m := (doF s.m e).1 }, (doF s.m e).2) by have hok : pointOk s k e = true := (by unfold pointOk; rw [hpt, hh.1, hh.2.1, hh.2.2]; rw [hq]; simp [n1, h0]); unfold pointB; rw [if_pos hok, if_neg hc])
 have q0 : (e.er == 0) = false := beq_eq_false_iff_ne.2 (h0)
 have r0 : (e.er != 0) = true := bne_iff_ne.2 (h0)
 have q1 : (e.op == 1) = false := beq_eq_false_iff_ne.2 (n1)
 have r1 : (e.op != 1) = true := bne_iff_ne.2 (n1)
 have hq0 := hq
 have c0 : ((doF s.m e).2 == 0) = false := beq_eq_false_iff_ne.2 (hc)
 have HW := Aside0.mk hw
 have HN := Aside0.mk hn
 have HWL := Aside0.mk hwl
 have HK := Aside0.mk (And.intro hk (And.intro hp hBg))
 have HJ := Aside0.mk (show Wj w (w.alloc (.cells (evA e) 54)) B b n mb m1 m2 m3 s pf e w.heap.size g iv k.beg none from ⟨Bj.start h hB e, blk_alloc hgb _⟩)
 clear hw hn hwl hk hp hBg h hB hgb hpt hh n1 h0 hq hc
 have hcb := fun i => HJ.out.bj.be.cell i
 have hce := fun i => blk_cell HJ.out.bj.eb_ i
 have hcg := fun i => blk_cell HJ.out.gb i
 have hlb := HJ.out.bj.be.lt
 have hle := blk_lt HJ.out.bj.eb_
 have hlg := blk_lt HJ.out.gb
 go_enter Try.func66, Try.ntmps66
 go_upto_region 3 with (fail)
 refine gen_world' (fun W => Wj w W B b n mb m1 m2 m3 s pf e w.heap.size g iv k.beg none) (by exact HJ.out) fun w3 Hw3 => ?_
 have HJw3 := Aside0.mk Hw3
 clear Hw3
 clear hcb hce hcg hlb hle hlg
 have hcb := fun i => HJw3.out.bj.be.cell i
 have hce := fun i => blk_cell HJw3.out.bj.eb_ i
 have hcg := fun i => blk_cell HJw3.out.gb i
 have hlb := HJw3.out.bj.be.lt
 have hle := blk_lt HJw3.out.bj.eb_
 have hlg := blk_lt HJw3.out.gb
 go_quiet (fail)
 go_upto_region 5 with (fail)
 refine gen_world' (fun W => Wj w W B b n mb m1 m2 m3 s pf e w.heap.size g iv k.beg none) (by exact HJw3.out.drewN _) fun w4 Hw4 => ?_
 have HJw4 := Aside0.mk Hw4
 clear Hw4
 clear hcb hce hcg hlb hle hlg
 have hcb := fun i => HJw4.out.bj.be.cell i
 have hce := fun i => blk_cell HJw4.out.bj.eb_ i
 have hcg := fun i => blk_cell HJw4.out.gb i
 have hlb := HJw4.out.bj.be.lt
 have hle := blk_lt HJw4.out.bj.eb_
 have hlg := blk_lt HJw4.out.gb
 go_quiet (fail)
 go_upto_region 7 with (fail)
 refine gen_world' (fun W => Wj w W B b n mb m1 m2 m3 s pf e w.heap.size g iv k.beg none) (by exact HJw4.out.drewN _) fun w6 Hw6 => ?_
 have HJw6 := Aside0.mk Hw6
 clear Hw6
 clear hcb hce hcg hlb hle hlg
 have hcb := fun i => HJw6.out.bj.be.cell i
 have hce := fun i => blk_cell HJw6.out.bj.eb_ i
 have hcg := fun i => blk_cell HJw6.out.gb i
 have hlb := HJw6.out.bj.be.lt
 have hle := blk_lt HJw6.out.bj.eb_
 have hlg := blk_lt HJw6.out.gb
 refine start_ (n := 7) (S := (fun w' => (∀ i, w'.cell? ⟨b, i, none⟩ = (beA s.nw mb m3)[i]?) ∧ (∀ i, w'.cell? ⟨w.heap.size, i, none⟩ = (evA e)[i]?) ∧ (∀ i, w'.cell? ⟨g, i, none⟩ = (wkA iv k.beg none)[i]?))) (ds := [5]) #[ff,ff,ff,ff,ff,ff,ff] (by kernel_rfl) rfl rfl HJw6.out.drew.cells (fun hHeld => ?_)
 refine with_tabW bpR.tab7 bpR.bits7 (fun HT_ HW_ => ?_)
 have HJ7 := Aside0.mk HJw6.out.drew
 generalize w6.drew = w7 at HJ7 hHeld ⊢
 clear hcb hce hcg hlb hle hlg
 have hlb := HJ7.out.bj.be.lt
 have hle := blk_lt HJ7.out.bj.eb_
 have hlg := blk_lt HJ7.out.gb
 refine pure_ (i := 0) (N := (some 63)) (v := ?_) (a' := ?_) #[tt,ff,ff,ff,ff,ff,ff] rfl rfl (any_of HT_.out (by kernel_rfl)) (fun _ _ _ h => h) (Or.inl ⟨by rfl, ?_⟩) ?_ ?_
 rotate_left
 ·intro w'
  go_simp
  with_reducible rfl
 rotate_left
 ·simp only [Act.put, sQ0, sQ1, sQ2, i64_w]
  rfl
 refine pure_ (i := 1) (N := (some 64)) (v := ?_) (a' := ?_) #[tt,tt,ff,ff,ff,ff,ff] rfl rfl (any_of HT_.out (by kernel_rfl)) (fun _ _ _ h => h) (Or.inl ⟨by rfl, ?_⟩) ?_ ?_
 rotate_left
 ·intro w'
  go_simp
  with_reducible rfl
 rotate_left
 ·simp only [Act.put, sQ0, sQ1, sQ2, i64_w]
  rfl
 refine pure_ (i := 2) (N := (some 65)) (v := ?_) (a' := ?_) #[tt,tt,tt,ff,ff,ff,ff] rfl rfl (any_of HT_.out (by kernel_rfl)) (fun _ _ _ h => h) (Or.inl ⟨by rfl, ?_⟩) ?_ ?_
 rotate_left
 ·intro w'
  go_simp
  with_reducible rfl
 rotate_left
 ·simp only [Act.put, sQ0, sQ1, sQ2, i64_w]
  rfl
 refine take_ (i := 3) (N := (some 66)) (v := ?_) (a' := ?_) #[tt,tt,tt,tt,ff,ff,ff] rfl rfl (take_ofW HT_.out HW_.out (by kernel_rfl)) (fun _ _ _ h => h) (Or.inl ⟨by rfl, ?_⟩) hHeld ?_ ?_
 rotate_left
 ·rintro w' ⟨s0, s1, s2⟩
  go_simp
  with_reducible rfl
 rotate_left
 ·simp only [Act.put, sQ0, sQ1, sQ2, i64_w]
  rfl
 refine take_ (i := 4) (N := (some 67)) (v := ?_) (a' := ?_) #[tt,tt,tt,tt,tt,ff,ff] rfl rfl (take_ofW HT_.out HW_.out (by kernel_rfl)) (fun _ _ _ h => h) (Or.inl ⟨by rfl, ?_⟩) hHeld ?_ ?_
 rotate_left
 ·rintro w' ⟨s0, s1, s2⟩
  go_simp
  with_reducible rfl
 rotate_left
 ·simp only [Act.put, sQ0, sQ1, sQ2, i64_w]
  rfl
 refine last_ (i := 5) (N := (some 68)) #[tt,tt,tt,tt,tt,tt,ff] rfl rfl (one_of HT_.out (by kernel_rfl)) (by decide) (fun K hK => ?_)
 refine call_ (f := 43) #[pA mb, .agg (evA e)] (by rfl) rfl (by go_simp <;> rfl) ?_
 refine (do_any e HW.out HN.out HWL.out HJ7.out.bj.be.md).mono ?_
 rintro r w8 ⟨rfl, hm, hf⟩
 refine ⟨_, rfl, ?_⟩
 have HD := Aside0.mk (HJ7.out.model hm (by omega) hf)
 clear hm hf
 refine hK.out _ _ ?_
 clear hK K
 refine norm_ (a' := ?_) ?_ ?_
 rotate_left
 ·show Act.put _ (some 68) _ = _
  simp only [Act.put, sQ0, sQ1, sQ2, i64_w]
  rfl
 refine pure_ (i := 6) (N := (some 8)) (v := ?_) (a' := ?_) #[tt,tt,tt,tt,tt,tt,tt] rfl rfl (any_of HT_.out (by kernel_rfl)) (fun _ _ _ h => h) (Or.inl ⟨by rfl, ?_⟩) ?_ ?_
 rotate_left
 ·intro w'
  go_simp
  with_reducible rfl
 rotate_left
 ·simp only [Act.put, sQ0, sQ1, sQ2, i64_w]
  rfl
 refine done_ (done_of HT_.out (by kernel_rfl)) ?_
 clear hlb hle hlg
 have hcb := fun i => HD.out.bj.be.cell i
 have hce := fun i => blk_cell HD.out.bj.eb_ i
 have hcg := fun i => blk_cell HD.out.gb i
 have hlb := HD.out.bj.be.lt
 have hle := blk_lt HD.out.bj.eb_
 have hlg := blk_lt HD.out.gb
 have hfg := fun i => blk_frozen HD.out.gb i
 go_wp2
 go_ret
 exact BePost.of HF.out rfl (HD.out.bj.be.up (by omega)) HD.out.bj.bel
theorem bpoint_n1_no {w : World} {B b n mb m1 m2 m3 g : Nat} {s : Be} {pf : Int → Option Nat} {k : Wk} (e iv : Ev) (hw : (Lit.int .i64 e.hn).wf = true ∧ (Lit.int .i64 e.hg).wf = true ∧ (Lit.int .i64 e.nn).wf = true ∧ (Lit.int .i64 e.ng).wf = true) (hn : n + 1 ≤ 1000000) (hwl : ∀ x, (Lit.int .i64 ((s.m.lst x).getD 0)).wf = true) (h : BeIs w B b n s mb m1 m2 m3 pf) (hB : B ≤ w.heap.size) (hk : s.wks e.wk = some k) (hp : pf e.wk = some g) (hgb : w.heap[g]? = some (.cells (wkA iv k.beg none) 119 (0, 0))) (hBg : B ≤ g) (hpt : k.pt = none) (hh : k.hn = iv.hn ∧ k.hg = iv.hg ∧ k.t = iv.t) (n1 : ¬ e.op = 1) (n3 : ¬ e.op = 3) (h0 : e.er = 0) (hq : (e.hn == iv.hn && (e.hg == iv.hg)) = false) :
  Calls Try.prog 66 #[pA b, pA g, .agg (evA e)] w (BePost w B b n mb m1 m2 m3 (pointB s k e)) := by
 have hu0 := Try.underlying61
 have hu1 := Try.underlying34
 have hu2 := Try.underlying54
 have hu3 := Try.underlying119
 have HF := Aside0.mk (show pointB s k e = (s, 6) by unfold pointB pointOk; rw [hpt, hh.1, hh.2.1, hh.2.2]; rw [hq]; simp [n1, n3, h0])
 have q0 : (e.er == 0) = true := beq_iff_eq.2 (h0)
 have r0 : (e.er != 0) = false := bne_eq_false_iff_eq.2 (h0)
 have q1 : (e.op == 1) = false := beq_eq_false_iff_ne.2 (n1)
 have r1 : (e.op != 1) = true := bne_iff_ne.2 (n1)
 have q3 : (e.op == 3) = false := beq_eq_false_iff_ne.2 (n3)
 have r3 : (e.op != 3) = true := bne_iff_ne.2 (n3)
 have hq0 := hq
 have HW := Aside0.mk hw
 have HN := Aside0.mk hn
 have HWL := Aside0.mk hwl
 have HK := Aside0.mk (And.intro hk (And.intro hp hBg))
 have HJ := Aside0.mk (show Wj w (w.alloc (.cells (evA e) 54)) B b n mb m1 m2 m3 s pf e w.heap.size g iv k.beg none from ⟨Bj.start h hB e, blk_alloc hgb _⟩)
 clear hw hn hwl hk hp hBg h hB hgb hpt hh n1 n3 h0 hq
 have hcb := fun i => HJ.out.bj.be.cell i
 have hce := fun i => blk_cell HJ.out.bj.eb_ i
 have hcg := fun i => blk_cell HJ.out.gb i
 have hlb := HJ.out.bj.be.lt
 have hle := blk_lt HJ.out.bj.eb_
 have hlg := blk_lt HJ.out.gb
 go_enter Try.func66, Try.ntmps66
 go_upto_region 3 with (fail)
 refine gen_world' (fun W => Wj w W B b n mb m1 m2 m3 s pf e w.heap.size g iv k.beg none) (by exact HJ.out) fun w3 Hw3 => ?_
 have HJw3 := Aside0.mk Hw3
 clear Hw3
 clear hcb hce hcg hlb hle hlg
 have hcb := fun i => HJw3.out.bj.be.cell i
 have hce := fun i => blk_cell HJw3.out.bj.eb_ i
 have hcg := fun i => blk_cell HJw3.out.gb i
 have hlb := HJw3.out.bj.be.lt
 have hle := blk_lt HJw3.out.bj.eb_
 have hlg := blk_lt HJw3.out.gb
 go_quiet (fail)
 go_wp2
 go_ret
 exact BePost.of HF.out rfl ((HJw3.out.drewN _).bj.be.up (by omega)) (HJw3.out.drewN _).bj.bel
theorem bpoint_n1_ok {w : World} {B b n mb m1 m2 m3 g : Nat} {s : Be} {pf : Int → Option Nat} {k : Wk} (e iv : Ev) (hw : (Lit.int .i64 e.hn).wf = true ∧ (Lit.int .i64 e.hg).wf = true ∧ (Lit.int .i64 e.nn).wf = true ∧ (Lit.int .i64 e.ng).wf = true) (hn : n + 1 ≤ 1000000) (hwl : ∀ x, (Lit.int .i64 ((s.m.lst x).getD 0)).wf = true) (h : BeIs w B b n s mb m1 m2 m3 pf) (hB : B ≤ w.heap.size) (hk : s.wks e.wk = some k) (hp : pf e.wk = some g) (hgb : w.heap[g]? = some (.cells (wkA iv k.beg none) 119 (0, 0))) (hBg : B ≤ g) (hpt : k.pt = none) (hh : k.hn = iv.hn ∧ k.hg = iv.hg ∧ k.t = iv.t) (n1 : ¬ e.op = 1) (n3 : ¬ e.op = 3) (h0 : e.er = 0) (hq : (e.hn == iv.hn && (e.hg == iv.hg)) = true) (hc : (doF s.m e).2 = 0) :
  Calls Try.prog 66 #[pA b, pA g, .agg (evA e)] w (BePost w B b n mb m1 m2 m3 (pointB s k e)) := by
 have hu0 := Try.underlying61
 have hu1 := Try.underlying34
 have hu2 := Try.underlying54
 have hu3 := Try.underlying119
 have HF := Aside0.mk (show pointB s k e = ({ s with m := (doF s.m e).1, wks := updW s.wks e.wk (some { k with pt := some (ptOf e) }) }, 0) by have hok : pointOk s k e = true := (by unfold pointOk; rw [hpt, hh.1, hh.2.1, hh.2.2]; rw [hq]; simp [n1, n3, h0]); unfold pointB; rw [if_pos hok, if_pos hc])
 have q0 : (e.er == 0) = true := beq_iff_eq.2 (h0)
 have r0 : (e.er != 0) = false := bne_eq_false_iff_eq.2 (h0)
 have q1 : (e.op == 1) = false := beq_eq_false_iff_ne.2 (n1)
 have r1 : (e.op != 1) = true := bne_iff_ne.2 (n1)
 have q3 : (e.op == 3) = false := beq_eq_false_iff_ne.2 (n3)
 have r3 : (e.op != 3) = true := bne_iff_ne.2 (n3)
 have hq0 := hq
 have c0 : ((doF s.m e).2 == 0) = true := beq_iff_eq.2 (hc)
 have HC := Aside0.mk hc
 have HW := Aside0.mk hw
 have HN := Aside0.mk hn
 have HWL := Aside0.mk hwl
 have HK := Aside0.mk (And.intro hk (And.intro hp hBg))
 have HJ := Aside0.mk (show Wj w (w.alloc (.cells (evA e) 54)) B b n mb m1 m2 m3 s pf e w.heap.size g iv k.beg none from ⟨Bj.start h hB e, blk_alloc hgb _⟩)
 clear hw hn hwl hk hp hBg h hB hgb hpt hh n1 n3 h0 hq hc
 have hcb := fun i => HJ.out.bj.be.cell i
 have hce := fun i => blk_cell HJ.out.bj.eb_ i
 have hcg := fun i => blk_cell HJ.out.gb i
 have hlb := HJ.out.bj.be.lt
 have hle := blk_lt HJ.out.bj.eb_
 have hlg := blk_lt HJ.out.gb
 go_enter Try.func66, Try.ntmps66
 go_upto_region 3 with (fail)
 refine gen_world' (fun W => Wj w W B b n mb m1 m2 m3 s pf e w.heap.size g iv k.beg none) (by exact HJ.out) fun w3 Hw3 => ?_
 have HJw3 := Aside0.mk Hw3
 clear Hw3
 clear hcb hce hcg hlb hle hlg
 have hcb := fun i => HJw3.out.bj.be.cell i
 have hce := fun i => blk_cell HJw3.out.bj.eb_ i
 have hcg := fun i => blk_cell HJw3.out.gb i
 have hlb := HJw3.out.bj.be.lt
 have hle := blk_lt HJw3.out.bj.eb_
 have hlg := blk_lt HJw3.out.gb
 go_quiet (fail)
 go_upto_region 5 with (fail)
 refine gen_world' (fun W => Wj w W B b n mb m1 m2 m3 s pf e w.heap.size g iv k.beg none) (by exact HJw3.out.drewN _) fun w4 Hw4 => ?_
 have HJw4 := Aside0.mk Hw4
 clear Hw4
 clear hcb hce hcg hlb hle hlg
 have hcb := fun i => HJw4.out.bj.be.cell i
 have hce := fun i => blk_cell HJw4.out.bj.eb_ i
 have hcg := fun i => blk_cell HJw4.out.gb i
 have hlb := HJw4.out.bj.be.lt
 have hle := blk_lt HJw4.out.bj.eb_
 have hlg := blk_lt HJw4.out.gb
 go_quiet (fail)
 go_upto_region 7 with (fail)
 refine gen_world' (fun W => Wj w W B b n mb m1 m2 m3 s pf e w.heap.size g iv k.beg none) (by exact HJw4.out.drewN _) fun w6 Hw6 => ?_
 have HJw6 := Aside0.mk Hw6
 clear Hw6
 clear hcb hce hcg hlb hle hlg
 have hcb := fun i => HJw6.out.bj.be.cell i
 have hce := fun i => blk_cell HJw6.out.bj.eb_ i
 have hcg := fun i => blk_cell HJw6.out.gb i
 have hlb := HJw6.out.bj.be.lt
 have hle := blk_lt HJw6.out.bj.eb_
 have hlg := blk_lt HJw6.out.gb
 refine start_ (n := 7) (S := (fun w' => (∀ i, w'.cell? ⟨b, i, none⟩ = (beA s.nw mb m3)[i]?) ∧ (∀ i, w'.cell? ⟨w.heap.size, i, none⟩ = (evA e)[i]?) ∧ (∀ i, w'.cell? ⟨g, i, none⟩ = (wkA iv k.beg none)[i]?))) (ds := [5]) #[ff,ff,ff,ff,ff,ff,ff] (by kernel_rfl) rfl rfl HJw6.out.drew.cells (fun hHeld => ?_)
 refine with_tabW bpR.tab7 bpR.bits7 (fun HT_ HW_ => ?_)
 have HJ7 := Aside0.mk HJw6.out.drew
 generalize w6.drew = w7 at HJ7 hHeld ⊢
 clear hcb hce hcg hlb hle hlg
 have hlb := HJ7.out.bj.be.lt
 have hle := blk_lt HJ7.out.bj.eb_
 have hlg := blk_lt HJ7.out.gb
 refine pure_ (i := 0) (N := (some 63)) (v := ?_) (a' := ?_) #[tt,ff,ff,ff,ff,ff,ff] rfl rfl (any_of HT_.out (by kernel_rfl)) (fun _ _ _ h => h) (Or.inl ⟨by rfl, ?_⟩) ?_ ?_
 rotate_left
 ·intro w'
  go_simp
  with_reducible rfl
 rotate_left
 ·simp only [Act.put, sQ0, sQ1, sQ2, i64_w]
  rfl
 refine pure_ (i := 1) (N := (some 64)) (v := ?_) (a' := ?_) #[tt,tt,ff,ff,ff,ff,ff] rfl rfl (any_of HT_.out (by kernel_rfl)) (fun _ _ _ h => h) (Or.inl ⟨by rfl, ?_⟩) ?_ ?_
 rotate_left
 ·intro w'
  go_simp
  with_reducible rfl
 rotate_left
 ·simp only [Act.put, sQ0, sQ1, sQ2, i64_w]
  rfl
 refine pure_ (i := 2) (N := (some 65)) (v := ?_) (a' := ?_) #[tt,tt,tt,ff,ff,ff,ff] rfl rfl (any_of HT_.out (by kernel_rfl)) (fun _ _ _ h => h) (Or.inl ⟨by rfl, ?_⟩) ?_ ?_
 rotate_left
 ·intro w'
  go_simp
  with_reducible rfl
 rotate_left
 ·simp only [Act.put, sQ0, sQ1, sQ2, i64_w]
  rfl
 refine take_ (i := 3) (N := (some 66)) (v := ?_) (a' := ?_) #[tt,tt,tt,tt,ff,ff,ff] rfl rfl (take_ofW HT_.out HW_.out (by kernel_rfl)) (fun _ _ _ h => h) (Or.inl ⟨by rfl, ?_⟩) hHeld ?_ ?_
 rotate_left
 ·rintro w' ⟨s0, s1, s2⟩
  go_simp
  with_reducible rfl
 rotate_left
 ·simp only [Act.put, sQ0, sQ1, sQ2, i64_w]
  rfl
 refine take_ (i := 4) (N := (some 67)) (v := ?_) (a' := ?_) #[tt,tt,tt,tt,tt,ff,ff] rfl rfl (take_ofW HT_.out HW_.out (by kernel_rfl)) (fun _ _ _ h => h) (Or.inl ⟨by rfl, ?_⟩) hHeld ?_ ?_
 rotate_left
 ·rintro w' ⟨s0, s1, s2⟩
  go_simp
  with_reducible rfl
 rotate_left
 ·simp only [Act.put, sQ0, sQ1, sQ2, i64_w]
  rfl
 refine last_ (i := 5) (N := (some 68)) #[tt,tt,tt,tt,tt,tt,ff] rfl rfl (one_of HT_.out (by kernel_rfl)) (by decide) (fun K hK => ?_)
 refine call_ (f := 43) #[pA mb, .agg (evA e)] (by rfl) rfl (by go_simp <;> rfl) ?_
 refine (do_any e HW.out HN.out HWL.out HJ7.out.bj.be.md).mono ?_
 rintro r w8 ⟨rfl, hm, hf⟩
 refine ⟨_, rfl, ?_⟩
 have HD := Aside0.mk (HJ7.out.model hm (by omega) hf)
 clear hm hf
 refine hK.out _ _ ?_
 clear hK K
 refine norm_ (a' := ?_) ?_ ?_
 rotate_left
 ·show Act.put _ (some 68) _ = _
  simp only [Act.put, sQ0, sQ1, sQ2, i64_w]
  rfl
 refine pure_ (i := 6) (N := (some 8)) (v := ?_) (a' := ?_) #[tt,tt,tt,tt,tt,tt,tt] rfl rfl (any_of HT_.out (by kernel_rfl)) (fun _ _ _ h => h) (Or.inl ⟨by rfl, ?_⟩) ?_ ?_
 rotate_left
 ·intro w'
  go_simp
  with_reducible rfl
 rotate_left
 ·simp only [Act.put, sQ0, sQ1, sQ2, i64_w]
  rfl
 refine done_ (done_of HT_.out (by kernel_rfl)) ?_
 clear hlb hle hlg
 have hcb := fun i => HD.out.bj.be.cell i
 have hce := fun i => blk_cell HD.out.bj.eb_ i
 have hcg := fun i => blk_cell HD.out.gb i
 have hlb := HD.out.bj.be.lt
 have hle := blk_lt HD.out.bj.eb_
 have hlg := blk_lt HD.out.gb
 have hfg := fun i => blk_frozen HD.out.gb i
 go_wp2
 go_ret
 have hE := do_end HD.out HK.out.1 HK.out.2.1 HK.out.2.2
 exact BePost.of HF.out (by first | exact HC.out | rfl) (hE.1.up (by omega)) hE.2
theorem bpoint_n1_fail {w : World} {B b n mb m1 m2 m3 g : Nat} {s : Be} {pf : Int → Option Nat} {k : Wk} (e iv : Ev) (hw : (Lit.int .i64 e.hn).wf = true ∧ (Lit.int .i64 e.hg).wf = true ∧ (Lit.int .i64 e.nn).wf = true ∧ (Lit.int .i64 e.ng).wf = true) (hn : n + 1 ≤ 1000000) (hwl : ∀ x, (Lit.int .i64 ((s.m.lst x).getD 0)).wf = true) (h : BeIs w B b n s mb m1 m2 m3 pf) (hB : B ≤ w.heap.size) (hk : s.wks e.wk = some k) (hp : pf e.wk = some g) (hgb : w.heap[g]? = some (.cells (wkA iv k.beg none) 119 (0, 0))) (hBg : B ≤ g) (hpt : k.pt = none) (hh : k.hn = iv.hn ∧ k.hg = iv.hg ∧ k.t = iv.t) (n1 : ¬ e.op = 1) (n3 : ¬ e.op = 3) (h0 : e.er = 0) (hq : (e.hn == iv.hn && (e.hg == iv.hg)) = true) (hc : ¬ (doF s.m e).2 = 0) :
  Calls Try.prog 66 #[pA b, pA g, .agg (evA e)] w (BePost w B b n mb m1 m2 m3 (pointB s k e)) := by
 have hu0 := Try.underlying61
 have hu1 := Try.underlying34
 have hu2 := Try.underlying54
 have hu3 := Try.underlying119
 have HF := Aside0.mk (show pointB s k e = ({ s with m := (doF s.m e).1 }, (doF s.m e).2) by have hok : pointOk s k e = true := (by unfold pointOk; rw [hpt, hh.1, hh.2.1, hh.2.2]; rw [hq]; simp [n1, n3, h0]); unfold pointB; rw [if_pos hok, if_neg hc])
 have q0 : (e.er == 0) = true := beq_iff_eq.2 (h0)
 have r0 : (e.er != 0) = false := bne_eq_false_iff_eq.2 (h0)
 have q1 : (e.op == 1) = false := beq_eq_false_iff_ne.2 (n1)
 have r1 : (e.op != 1) = true := bne_iff_ne.2 (n1)
 have q3 : (e.op == 3) = false := beq_eq_false_iff_ne.2 (n3)
 have r3 : (e.op != 3) = true := bne_iff_ne.2 (n3)
 have hq0 := hq
 have c0 : ((doF s.m e).2 == 0) = false := beq_eq_false_iff_ne.2 (hc)
 have HW := Aside0.mk hw
 have HN := Aside0.mk hn
 have HWL := Aside0.mk hwl
 have HK := Aside0.mk (And.intro hk (And.intro hp hBg))
 have HJ := Aside0.mk (show Wj w (w.alloc (.cells (evA e) 54)) B b n mb m1 m2 m3 s pf e w.heap.size g iv k.beg none from ⟨Bj.start h hB e, blk_alloc hgb _⟩)
 clear hw hn hwl hk hp hBg h hB hgb hpt hh n1 n3 h0 hq hc
 have hcb := fun i => HJ.out.bj.be.cell i
 have hce := fun i => blk_cell HJ.out.bj.eb_ i
 have hcg := fun i => blk_cell HJ.out.gb i
 have hlb := HJ.out.bj.be.lt
 have hle := blk_lt HJ.out.bj.eb_
 have hlg := blk_lt HJ.out.gb
 go_enter Try.func66, Try.ntmps66
 go_upto_region 3 with (fail)
 refine gen_world' (fun W => Wj w W B b n mb m1 m2 m3 s pf e w.heap.size g iv k.beg none) (by exact HJ.out) fun w3 Hw3 => ?_
 have HJw3 := Aside0.mk Hw3
 clear Hw3
 clear hcb hce hcg hlb hle hlg
 have hcb := fun i => HJw3.out.bj.be.cell i
 have hce := fun i => blk_cell HJw3.out.bj.eb_ i
 have hcg := fun i => blk_cell HJw3.out.gb i
 have hlb := HJw3.out.bj.be.lt
 have hle := blk_lt HJw3.out.bj.eb_
 have hlg := blk_lt HJw3.out.gb
 go_quiet (fail)
 go_upto_region 5 with (fail)
 refine gen_world' (fun W => Wj w W B b n mb m1 m2 m3 s pf e w.heap.size g iv k.beg none) (by exact HJw3.out.drewN _) fun w4 Hw4 => ?_
 have HJw4 := Aside0.mk Hw4
 clear Hw4
 clear hcb hce hcg hlb hle hlg
 have hcb := fun i => HJw4.out.bj.be.cell i
 have hce := fun i => blk_cell HJw4.out.bj.eb_ i
 have hcg := fun i => blk_cell HJw4.out.gb i
 have hlb := HJw4.out.bj.be.lt
 have hle := blk_lt HJw4.out.bj.eb_
 have hlg := blk_lt HJw4.out.gb
 go_quiet (fail)
 go_upto_region 7 with (fail)
 refine gen_world' (fun W => Wj w W B b n mb m1 m2 m3 s pf e w.heap.size g iv k.beg none) (by exact HJw4.out.drewN _) fun w6 Hw6 => ?_
 have HJw6 := Aside0.mk Hw6
 clear Hw6
 clear hcb hce hcg hlb hle hlg
 have hcb := fun i => HJw6.out.bj.be.cell i
 have hce := fun i => blk_cell HJw6.out.bj.eb_ i
 have hcg := fun i => blk_cell HJw6.out.gb i
 have hlb := HJw6.out.bj.be.lt
 have hle := blk_lt HJw6.out.bj.eb_
 have hlg := blk_lt HJw6.out.gb
 refine start_ (n := 7) (S := (fun w' => (∀ i, w'.cell? ⟨b, i, none⟩ = (beA s.nw mb m3)[i]?) ∧ (∀ i, w'.cell? ⟨w.heap.size, i, none⟩ = (evA e)[i]?) ∧ (∀ i, w'.cell? ⟨g, i, none⟩ = (wkA iv k.beg none)[i]?))) (ds := [5]) #[ff,ff,ff,ff,ff,ff,ff] (by kernel_rfl) rfl rfl HJw6.out.drew.cells (fun hHeld => ?_)
 refine with_tabW bpR.tab7 bpR.bits7 (fun HT_ HW_ => ?_)
 have HJ7 := Aside0.mk HJw6.out.drew
 generalize w6.drew = w7 at HJ7 hHeld ⊢
 clear hcb hce hcg hlb hle hlg
 have hlb := HJ7.out.bj.be.lt
 have hle := blk_lt HJ7.out.bj.eb_
 have hlg := blk_lt HJ7.out.gb
 refine pure_ (i := 0) (N := (some 63)) (v := ?_) (a' := ?_) #[tt,ff,ff,ff,ff,ff,ff] rfl rfl (any_of HT_.out (by kernel_rfl)) (fun _ _ _ h => h) (Or.inl ⟨by rfl, ?_⟩) ?_ ?_
 rotate_left
 ·intro w'
  go_simp
  with_reducible rfl
 rotate_left
 ·simp only [Act.put, sQ0, sQ1, sQ2, i64_w]
  rfl
 refine pure_ (i := 1) (N := (some 64)) (v := ?_) (a' := ?_) #[tt,tt,ff,ff,ff,ff,ff] rfl rfl (any_of HT_.out (by kernel_rfl)) (fun _ _ _ h => h) (Or.inl ⟨by rfl, ?_⟩) ?_ ?_
 rotate_left
 ·intro w'
  go_simp
  with_reducible rfl
 rotate_left
 ·simp only [Act.put, sQ0, sQ1, sQ2, i64_w]
  rfl
 refine pure_ (i := 2) (N := (some 65)) (v := ?_) (a' := ?_) #[tt,tt,tt,ff,ff,ff,ff] rfl rfl (any_of HT_.out (by kernel_rfl)) (fun _ _ _ h => h) (Or.inl ⟨by rfl, ?_⟩) ?_ ?_
 rotate_left
 ·intro w'
  go_simp
  with_reducible rfl
 rotate_left
 ·simp only [Act.put, sQ0, sQ1, sQ2, i64_w]
  rfl
 refine take_ (i := 3) (N := (some 66)) (v := ?_) (a' := ?_) #[tt,tt,tt,tt,ff,ff,ff] rfl rfl (take_ofW HT_.out HW_.out (by kernel_rfl)) (fun _ _ _ h => h) (Or.inl ⟨by rfl, ?_⟩) hHeld ?_ ?_
 rotate_left
 ·rintro w' ⟨s0, s1, s2⟩
  go_simp
  with_reducible rfl
 rotate_left
 ·simp only [Act.put, sQ0, sQ1, sQ2, i64_w]
  rfl
 refine take_ (i := 4) (N := (some 67)) (v := ?_) (a' := ?_) #[tt,tt,tt,tt,tt,ff,ff] rfl rfl (take_ofW HT_.out HW_.out (by kernel_rfl)) (fun _ _ _ h => h) (Or.inl ⟨by rfl, ?_⟩) hHeld ?_ ?_
 rotate_left
 ·rintro w' ⟨s0, s1, s2⟩
  go_simp
  with_reducible rfl
 rotate_left
 ·simp only [Act.put, sQ0, sQ1, sQ2, i64_w]
  rfl
 refine last_ (i := 5) (N := (some 68)) #[tt,tt,tt,tt,tt,tt,ff] rfl rfl (one_of HT_.out (by kernel_rfl)) (by decide) (fun K hK => ?_)
 refine call_ (f := 43) #[pA mb, .agg (evA e)] (by rfl) rfl (by go_simp <;> rfl) ?_
 refine (do_any e HW.out HN.out HWL.out HJ7.out.bj.be.md).mono ?_
 rintro r w8 ⟨rfl, hm, hf⟩
 refine ⟨_, rfl, ?_⟩
 have HD := Aside0.mk (HJ7.out.model hm (by omega) hf)
 clear hm hf
 refine hK.out _ _ ?_
 clear hK K
 refine norm_ (a' := ?_) ?_ ?_
 rotate_left
 ·show Act.put _ (some 68) _ = _
  simp only [Act.put, sQ0, sQ1, sQ2, i64_w]
  rfl
 refine pure_ (i := 6) (N := (some 8)) (v := ?_) (a' := ?_) #[tt,tt,tt,tt,tt,tt,tt] rfl rfl (any_of HT_.out (by kernel_rfl)) (fun _ _ _ h => h) (Or.inl ⟨by rfl, ?_⟩) ?_ ?_
 rotate_left
 ·intro w'
  go_simp
  with_reducible rfl
 rotate_left
 ·simp only [Act.put, sQ0, sQ1, sQ2, i64_w]
  rfl
 refine done_ (done_of HT_.out (by kernel_rfl)) ?_
 clear hlb hle hlg
 have hcb := fun i => HD.out.bj.be.cell i
 have hce := fun i => blk_cell HD.out.bj.eb_ i
 have hcg := fun i => blk_cell HD.out.gb i
 have hlb := HD.out.bj.be.lt
 have hle := blk_lt HD.out.bj.eb_
 have hlg := blk_lt HD.out.gb
 have hfg := fun i => blk_frozen HD.out.gb i
 go_wp2
 go_ret
 exact BePost.of HF.out rfl (HD.out.bj.be.up (by omega)) HD.out.bj.bel
end Go.Proofs.Ythniclbmpeklmaa.Ju
end
