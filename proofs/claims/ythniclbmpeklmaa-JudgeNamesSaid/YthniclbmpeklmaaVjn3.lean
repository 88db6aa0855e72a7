/- What is proved: a part of the way to the statement JudgeNamesSaid: JuC, JuD; no conditions. Put together by a program of this session (claimv.py). -/
import Derived.Test.YthniclbmpeklmaaVjn2
section
namespace Go.Proofs.Ythniclbmpeklmaa.Ju
open Go.RowKit Go.Maps Go.Proofs.YthniclbmpeklmaaW.PrintWords Go.Proofs.YthniclbmpeklmaaW.PrintLast Go.Proofs.YthniclbmpeklmaaW.PrintMore Go.Proofs.Ythniclbmpeklmaa.Mp Go.Proofs.Ythniclbmpeklmaa.Au
set_option linter.unusedVariables false
set_option linter.unusedSimpArgs false
theorem right_run (e : Ev) (W : World) : Calls Try.prog 65 #[.agg (evA e)] W fun r w' => r = .returned (.bool (rightJ e)) ∧ Below W.heap.size W w' := Ev.event_right e.k e.wk e.op e.hn e.hg e.nn e.ng e.t e.a e.u e.y e.er W
theorem gen_world' {P : Program} {c : Code} {Q : Exit → Act → World → Prop} {a : Act} {w : World} (R : World → Prop) (h : R w) (k : ∀ W, R W → c.wp P Q a W) : c.wp P Q a w := k w h
/-- The fate that is looked up lies in a block of its own. -/
structure Dk (w W : World) (B b n m1 m2 : Nat) (m : Md) (e : Ev) (fb : Nat) : Prop where
  dj : Dj w W B b n m1 m2 m e
  fb : W.heap[fb]? = some (.cells #[.int .i64 (m.st e.h), .int .i64 (m.dl e.h)] 122 (0, 0))
section
variable {w W W1 : World} {B b n m1 m2 fb : Nat} {m : Md} {e : Ev}
theorem Dk.step (h : Dk w W B b n m1 m2 m e fb) (hb : Below W.heap.size W W1) : Dk w W1 B b n m1 m2 m e fb := ⟨h.dj.step hb, blk_below h.fb hb⟩
theorem Dk.drew (h : Dk w W B b n m1 m2 m e fb) : Dk w W.drew B b n m1 m2 m e fb := ⟨h.dj.drew, h.fb⟩
theorem Dk.cells (h : Dk w W B b n m1 m2 m e fb) : (∀ i, W.cell? ⟨b, i, none⟩ = (mdA m m1 m2)[i]?) ∧ (∀ i, W.cell? ⟨w.heap.size, i, none⟩ = (#[pA b] : Array Value)[i]?) ∧ (∀ i, W.cell? ⟨w.heap.size + 1, i, none⟩ = (evA e)[i]?) ∧ (∀ i, W.cell? ⟨fb, i, none⟩ = (#[.int .i64 (m.st e.h), .int .i64 (m.dl e.h)] : Array Value)[i]?) := ⟨h.dj.cells.1, h.dj.cells.2.1, h.dj.cells.2.2, fun i => blk_cell h.fb i⟩
end
def doR.T7 : Bool × List (List Nat × List Nat) := (true, [([], []), ([0], [0]), ([], []), ([2], [2]), ([3], [3]), ([4], [4]), ([5], [5]), ([1, 6], [1, 6]), ([], []), ([7, 8], [7, 8]), ([9, 9, 0, 1, 2, 3, 4, 5, 6, 7, 8, 9], [9])])
def doR.B7 : List Nat := [0, 1, 0, 4, 12, 28, 60, 127, 0, 511, 1023]
theorem doR.tab7 : rtab .any (opsOf Try.f43 7) = doR.T7 := by kernel_rfl
theorem doR.bits7 : waitsOk doR.T7.2 doR.B7 = true := by kernel_rfl
def doR.T9 : Bool × List (List Nat × List Nat) := (true, [([], []), ([0], [0]), ([1], [1]), ([2, 1], [1, 2]), ([1], [1]), ([4, 1], [1, 4]), ([3, 5, 1], [1, 3, 5]), ([1, 6], [1, 6]), ([7, 1], [7]), ([8], [8]), ([9, 8], [8, 9]), ([8], [8]), ([11, 8], [8, 11]), ([12, 8], [8, 12]), ([13, 8], [8, 13]), ([10, 14, 8], [8, 10, 14]), ([8, 15], [8, 15]), ([], []), ([], []), ([18], [18]), ([17, 19, 8], [17, 19]), ([16, 20, 20], [16, 20]), ([21, 21, 0, 1, 2, 3, 4, 5, 6, 7, 8, 9, 10, 11, 12, 13, 14, 15, 16, 17, 18, 19, 20, 21], [21])])
def doR.B9 : List Nat := [0, 1, 3, 7, 3, 19, 63, 127, 255, 511, 1023, 511, 2559, 6655, 14847, 32767, 65535, 0, 0, 262144, 918015, 2097151, 4194303]
theorem doR.tab9 : rtab .any (opsOf Try.f43 9) = doR.T9 := by kernel_rfl
theorem doR.bits9 : waitsOk doR.T9.2 doR.B9 = true := by kernel_rfl
def doR.T3 : Bool × List (List Nat × List Nat) := (true, [([], []), ([0], [0]), ([1], [1]), ([2], [2]), ([], []), ([4], [4]), ([3, 5], [3, 5]), ([], []), ([7, 6, 0, 1, 2, 3, 4, 5, 6, 7], [6, 7])])
def doR.B3 : List Nat := [0, 1, 3, 7, 0, 16, 63, 0, 255]
theorem doR.tab3 : rtab .any (opsOf Try.f43 3) = doR.T3 := by kernel_rfl
theorem doR.bits3 : waitsOk doR.T3.2 doR.B3 = true := by kernel_rfl
set_option maxHeartbeats 4000000 in
set_option maxRecDepth 100000 in
theorem do_wrong {w : World} {B b n m1 m2 : Nat} {m : Md} (e : Ev) (hw : (Lit.int .i64 e.hn).wf = true ∧ (Lit.int .i64 e.hg).wf = true ∧ (Lit.int .i64 e.nn).wf = true ∧ (Lit.int .i64 e.ng).wf = true) (hn : n + 1 ≤ 1000000) (hwl : ∀ x, (Lit.int .i64 ((m.lst x).getD 0)).wf = true) (h : MdIs w B b n m m1 m2) (hr : rightJ e = false) :
    Calls Try.prog 43 #[pA b, .agg (evA e)] w (DoPost w B b n m1 m2 (doF m e)) := by
  have hu0 := Try.underlying125
  have hu1 := Try.underlying34
  have hu2 := Try.underlying54
  have hu3 := Try.underlying122
  have hmf : ∀ (fn : Fn) (first cap : Array Value) (w : World), (Instr.makeFunc fn first cap).run Try.prog w = .ok (.func fn first cap) w := fun _ _ _ _ => rfl
  have HF := Aside0.mk (show doF m e = (m, 8) by unfold doF; rw [if_pos hr])
  have CR := Aside0.mk (fun W => right_run e W)
  rw [hr] at CR
  have HW := Aside0.mk hw
  have HN := Aside0.mk hn
  have HWL := Aside0.mk hwl
  have HJ := Aside0.mk (Dj.start h e)
  clear hw hn hwl h hr
  have hcx := fun i => blk_cell HJ.out.xb i
  have hce := fun i => blk_cell HJ.out.eb i
  have hlx := blk_lt HJ.out.xb
  have hle := blk_lt HJ.out.eb
  have hcm := fun i => HJ.out.md.cell i
  have hlm := HJ.out.md.lt
  go_enter Try.func43, Try.ntmps43
  go_wp2_with (first | (go_at_call 65; (with_reducible refine (CR.out _).mono ?_); rintro r w2 ⟨rfl, hb2⟩; have HJ2 := Aside0.mk (HJ.out.step hb2); clear hb2 hcx hce hlx hle hcm hlm; have HJ := HJ2; have hcx := fun i => blk_cell HJ.out.xb i; have hce := fun i => blk_cell HJ.out.eb i; have hlx := blk_lt HJ.out.xb; have hle := blk_lt HJ.out.eb; have hcm := fun i => HJ.out.md.cell i; have hlm := HJ.out.md.lt))
  go_ret
  exact DoPost.of HF.out rfl (HJ.out.md.up (by omega)) HJ.out.fr
set_option maxHeartbeats 4000000 in
set_option maxRecDepth 100000 in
theorem do_other {w : World} {B b n m1 m2 : Nat} {m : Md} (e : Ev) (hw : (Lit.int .i64 e.hn).wf = true ∧ (Lit.int .i64 e.hg).wf = true ∧ (Lit.int .i64 e.nn).wf = true ∧ (Lit.int .i64 e.ng).wf = true) (hn : n + 1 ≤ 1000000) (hwl : ∀ x, (Lit.int .i64 ((m.lst x).getD 0)).wf = true) (h : MdIs w B b n m m1 m2) (hr : rightJ e = true) (hk : e.k = 2 ∨ e.k = 5) :
    Calls Try.prog 43 #[pA b, .agg (evA e)] w (DoPost w B b n m1 m2 (doF m e)) := by
  have hu0 := Try.underlying125
  have hu1 := Try.underlying34
  have hu2 := Try.underlying54
  have hu3 := Try.underlying122
  have hmf : ∀ (fn : Fn) (first cap : Array Value) (w : World), (Instr.makeFunc fn first cap).run Try.prog w = .ok (.func fn first cap) w := fun _ _ _ _ => rfl
  have HF := Aside0.mk (show doF m e = (m, 8) by unfold doF; rw [if_neg (by rw [hr]; simp), if_neg (by omega), if_neg (by omega), if_neg (by omega)])
  have k1 : (e.k == 1) = false := beq_eq_false_iff_ne.2 (by omega)
  have k4 : (e.k == 4) = false := beq_eq_false_iff_ne.2 (by omega)
  have k3 : (e.k == 3) = false := beq_eq_false_iff_ne.2 (by omega)
  have CR := Aside0.mk (fun W => right_run e W)
  rw [hr] at CR
  have HW := Aside0.mk hw
  have HN := Aside0.mk hn
  have HWL := Aside0.mk hwl
  have HJ := Aside0.mk (Dj.start h e)
  clear hw hn hwl h hr hk
  have hcx := fun i => blk_cell HJ.out.xb i
  have hce := fun i => blk_cell HJ.out.eb i
  have hlx := blk_lt HJ.out.xb
  have hle := blk_lt HJ.out.eb
  have hcm := fun i => HJ.out.md.cell i
  have hlm := HJ.out.md.lt
  go_enter Try.func43, Try.ntmps43
  go_wp2_with (first | (go_at_call 65; (with_reducible refine (CR.out _).mono ?_); rintro r w2 ⟨rfl, hb2⟩; have HJ2 := Aside0.mk (HJ.out.step hb2); clear hb2 hcx hce hlx hle hcm hlm; have HJ := HJ2; have hcx := fun i => blk_cell HJ.out.xb i; have hce := fun i => blk_cell HJ.out.eb i; have hlx := blk_lt HJ.out.xb; have hle := blk_lt HJ.out.eb; have hcm := fun i => HJ.out.md.cell i; have hlm := HJ.out.md.lt))
  obtain ⟨kl, hkl⟩ := keyH e.hn e.hg HW.out.1 HW.out.2.1
  refine start_ (n := 9) (S := (fun w' => (∀ i, w'.cell? ⟨b, i, none⟩ = (mdA m m1 m2)[i]?) ∧ (∀ i, w'.cell? ⟨w.heap.size, i, none⟩ = (#[pA b] : Array Value)[i]?) ∧ (∀ i, w'.cell? ⟨w.heap.size + 1, i, none⟩ = (evA e)[i]?) ∧ (Instr.lookup 123 (.map (some m1)) (haV e.h) false).run Try.prog w' = .ok (.agg #[.int .i64 (m.st e.h), .int .i64 (m.dl e.h)]) w')) (ds := [8]) #[false, false, false, false, false, false, false, false, false] (by kernel_rfl) rfl rfl ⟨HJ.out.drew.cells.1, HJ.out.drew.cells.2.1, HJ.out.drew.cells.2.2, HJ.out.drew.md.look hkl _ rfl⟩ (fun hHeld => ?_)
  refine with_tabW doR.tab3 doR.bits3 (fun HT_ HW_ => ?_)
  have HJ3 := Aside0.mk HJ.out.drew
  generalize World.drew _ = w3 at HJ3 hHeld ⊢
  clear HJ hcx hce hlx hle hcm hlm
  have hlx := blk_lt HJ3.out.xb
  have hle := blk_lt HJ3.out.eb
  have hlm := HJ3.out.md.lt
  refine pure_ (i := 4) (N := (some 14)) (v := ?_) (a' := ?_) #[false, false, false, false, true, false, false, false, false] rfl rfl (any_of HT_.out (by kernel_rfl)) (fun _ _ _ h => h) (Or.inl ⟨by rfl, ?_⟩) ?_ ?_
  rotate_left
  · intro w'
    go_simp
    with_reducible rfl
  rotate_left
  · simp only [Act.put, List.setIfInBounds_toArray, List.set_cons_zero, List.set_cons_succ, i64_w, i32_w]
    rfl
  refine take_ (i := 0) (N := (some 10)) (v := ?_) (a' := ?_) #[true, false, false, false, true, false, false, false, false] rfl rfl (take_ofW HT_.out HW_.out (by kernel_rfl)) (fun _ _ _ h => h) (Or.inl ⟨by rfl, ?_⟩) hHeld ?_ ?_
  rotate_left
  · rintro w' ⟨s0, s1, s2, s3⟩
    go_simp
    with_reducible rfl
  rotate_left
  · simp only [Act.put, List.setIfInBounds_toArray, List.set_cons_zero, List.set_cons_succ, i64_w, i32_w]
    rfl
  refine pure_ (i := 1) (N := (some 11)) (v := ?_) (a' := ?_) #[true, true, false, false, true, false, false, false, false] rfl rfl (any_of HT_.out (by kernel_rfl)) (fun _ _ _ h => h) (Or.inl ⟨by rfl, ?_⟩) ?_ ?_
  rotate_left
  · intro w'
    go_simp
    with_reducible rfl
  rotate_left
  · simp only [Act.put, List.setIfInBounds_toArray, List.set_cons_zero, List.set_cons_succ, i64_w, i32_w]
    rfl
  refine pure_ (i := 2) (N := (some 12)) (v := ?_) (a' := ?_) #[true, true, true, false, true, false, false, false, false] rfl rfl (any_of HT_.out (by kernel_rfl)) (fun _ _ _ h => h) (Or.inl ⟨by rfl, ?_⟩) ?_ ?_
  rotate_left
  · intro w'
    go_simp
    with_reducible rfl
  rotate_left
  · simp only [Act.put, List.setIfInBounds_toArray, List.set_cons_zero, List.set_cons_succ, i64_w, i32_w]
    rfl
  refine take_ (i := 3) (N := (some 13)) (v := ?_) (a' := ?_) #[true, true, true, true, true, false, false, false, false] rfl rfl (take_ofW HT_.out HW_.out (by kernel_rfl)) (fun _ _ _ h => h) (Or.inl ⟨by rfl, ?_⟩) hHeld ?_ ?_
  rotate_left
  · rintro w' ⟨s0, s1, s2, s3⟩
    go_simp
    with_reducible rfl
  rotate_left
  · simp only [Act.put, List.setIfInBounds_toArray, List.set_cons_zero, List.set_cons_succ, i64_w, i32_w]
    rfl
  refine take_ (i := 5) (N := (some 15)) (v := ?_) (a' := ?_) #[true, true, true, true, true, true, false, false, false] rfl rfl (take_ofW HT_.out HW_.out (by kernel_rfl)) (fun _ _ _ h => h) (Or.inl ⟨by rfl, ?_⟩) hHeld ?_ ?_
  rotate_left
  · rintro w' ⟨s0, s1, s2, s3⟩
    go_simp
    with_reducible rfl
  rotate_left
  · simp only [Act.put, List.setIfInBounds_toArray, List.set_cons_zero, List.set_cons_succ, i64_w, i32_w]
    rfl
  refine take_ (i := 6) (N := (some 16)) (v := ?_) (a' := ?_) #[true, true, true, true, true, true, true, false, false] rfl rfl (take_ofW HT_.out HW_.out (by kernel_rfl)) (fun _ _ _ h => h) (Or.inl ⟨by rfl, ?_⟩) hHeld ?_ ?_
  rotate_left
  · rintro w' ⟨s0, s1, s2, s3⟩
    go_simp
    with_reducible rfl
  rotate_left
  · simp only [Act.put, List.setIfInBounds_toArray, List.set_cons_zero, List.set_cons_succ, i64_w, i32_w]
    rfl
  refine one_ (i := 7) (N := (some 5)) #[true, true, true, true, true, true, true, true, false] rfl rfl (one_of HT_.out (by kernel_rfl)) (by decide) (fun K hK => ?_)
  refine value_ (by rfl) rfl (v := .pointer (some ⟨w3.heap.size, 0, none⟩)) (w1 := w3.alloc (.cells #[.int .i64 0, .int .i64 0] 122)) (by go_simp <;> rfl) ?_
  refine hK.out _ _ ⟨(HJ3.out.alloc _).cells.1, (HJ3.out.alloc _).cells.2.1, (HJ3.out.alloc _).cells.2.2, (HJ3.out.alloc _).md.look hkl _ rfl⟩ (fun hHeld => ?_)
  clear hK K
  refine norm_ (a' := ?_) ?_ ?_
  rotate_left
  · show Act.put _ (some 5) _ = _
    simp only [Act.put, List.setIfInBounds_toArray, List.set_cons_zero, List.set_cons_succ, i64_w, i32_w]
    rfl
  refine last_ (i := 8) (N := none) #[true, true, true, true, true, true, true, true, true] rfl rfl (one_of HT_.out (by kernel_rfl)) (by decide) (fun K hK => ?_)
  refine skip_ (by rfl) rfl (w1 := w3.alloc (.cells #[.int .i64 (m.st e.h), .int .i64 (m.dl e.h)] 122)) (by go_simp <;> rfl) ?_
  refine hK.out _ _ ?_
  clear hK K
  refine done_ (done_of HT_.out (by kernel_rfl)) ?_
  clear hHeld
  have hcx := fun i => blk_cell (HJ3.out.alloc (.cells #[.int .i64 (m.st e.h), .int .i64 (m.dl e.h)] 122)).xb i
  have hce := fun i => blk_cell (HJ3.out.alloc (.cells #[.int .i64 (m.st e.h), .int .i64 (m.dl e.h)] 122)).eb i
  have hcm := fun i => (HJ3.out.alloc (.cells #[.int .i64 (m.st e.h), .int .i64 (m.dl e.h)] 122)).md.cell i
  have HK := Aside0.mk (show Dk w (w3.alloc (.cells #[.int .i64 (m.st e.h), .int .i64 (m.dl e.h)] 122)) B b n m1 m2 m e w3.heap.size from ⟨HJ3.out.alloc _, blk_new _ _⟩)
  clear hkl
  go_wp2
  go_ret
  exact DoPost.of HF.out rfl (HK.out.dj.md.up (by omega)) HK.out.dj.fr
set_option maxHeartbeats 4000000 in
set_option maxRecDepth 100000 in
theorem do_point {w : World} {B b n m1 m2 : Nat} {m : Md} (e : Ev) (hw : (Lit.int .i64 e.hn).wf = true ∧ (Lit.int .i64 e.hg).wf = true ∧ (Lit.int .i64 e.nn).wf = true ∧ (Lit.int .i64 e.ng).wf = true) (hn : n + 1 ≤ 1000000) (hwl : ∀ x, (Lit.int .i64 ((m.lst x).getD 0)).wf = true) (h : MdIs w B b n m m1 m2) (hr : rightJ e = true) (hk : e.k = 3) :
    Calls Try.prog 43 #[pA b, .agg (evA e)] w (DoPost w B b n m1 m2 (doF m e)) := by
  have hu0 := Try.underlying125
  have hu1 := Try.underlying34
  have hu2 := Try.underlying54
  have hu3 := Try.underlying122
  have hmf : ∀ (fn : Fn) (first cap : Array Value) (w : World), (Instr.makeFunc fn first cap).run Try.prog w = .ok (.func fn first cap) w := fun _ _ _ _ => rfl
  have HF := Aside0.mk (show doF m e = pointF m e by unfold doF; rw [if_neg (by rw [hr]; simp), if_neg (by omega), if_neg (by omega), if_pos hk])
  have k1 : (e.k == 1) = false := beq_eq_false_iff_ne.2 (by omega)
  have k4 : (e.k == 4) = false := beq_eq_false_iff_ne.2 (by omega)
  have k3 : (e.k == 3) = true := beq_iff_eq.2 (hk)
  have CR := Aside0.mk (fun W => right_run e W)
  rw [hr] at CR
  have HW := Aside0.mk hw
  have HN := Aside0.mk hn
  have HWL := Aside0.mk hwl
  have HJ := Aside0.mk (Dj.start h e)
  clear hw hn hwl h hr hk
  have hcx := fun i => blk_cell HJ.out.xb i
  have hce := fun i => blk_cell HJ.out.eb i
  have hlx := blk_lt HJ.out.xb
  have hle := blk_lt HJ.out.eb
  have hcm := fun i => HJ.out.md.cell i
  have hlm := HJ.out.md.lt
  go_enter Try.func43, Try.ntmps43
  go_wp2_with (first | (go_at_call 65; (with_reducible refine (CR.out _).mono ?_); rintro r w2 ⟨rfl, hb2⟩; have HJ2 := Aside0.mk (HJ.out.step hb2); clear hb2 hcx hce hlx hle hcm hlm; have HJ := HJ2; have hcx := fun i => blk_cell HJ.out.xb i; have hce := fun i => blk_cell HJ.out.eb i; have hlx := blk_lt HJ.out.xb; have hle := blk_lt HJ.out.eb; have hcm := fun i => HJ.out.md.cell i; have hlm := HJ.out.md.lt))
  obtain ⟨kl, hkl⟩ := keyH e.hn e.hg HW.out.1 HW.out.2.1
  refine start_ (n := 9) (S := (fun w' => (∀ i, w'.cell? ⟨b, i, none⟩ = (mdA m m1 m2)[i]?) ∧ (∀ i, w'.cell? ⟨w.heap.size, i, none⟩ = (#[pA b] : Array Value)[i]?) ∧ (∀ i, w'.cell? ⟨w.heap.size + 1, i, none⟩ = (evA e)[i]?) ∧ (Instr.lookup 123 (.map (some m1)) (haV e.h) false).run Try.prog w' = .ok (.agg #[.int .i64 (m.st e.h), .int .i64 (m.dl e.h)]) w')) (ds := [8]) #[false, false, false, false, false, false, false, false, false] (by kernel_rfl) rfl rfl ⟨HJ.out.drew.cells.1, HJ.out.drew.cells.2.1, HJ.out.drew.cells.2.2, HJ.out.drew.md.look hkl _ rfl⟩ (fun hHeld => ?_)
  refine with_tabW doR.tab3 doR.bits3 (fun HT_ HW_ => ?_)
  have HJ3 := Aside0.mk HJ.out.drew
  generalize World.drew _ = w3 at HJ3 hHeld ⊢
  clear HJ hcx hce hlx hle hcm hlm
  have hlx := blk_lt HJ3.out.xb
  have hle := blk_lt HJ3.out.eb
  have hlm := HJ3.out.md.lt
  refine pure_ (i := 4) (N := (some 14)) (v := ?_) (a' := ?_) #[false, false, false, false, true, false, false, false, false] rfl rfl (any_of HT_.out (by kernel_rfl)) (fun _ _ _ h => h) (Or.inl ⟨by rfl, ?_⟩) ?_ ?_
  rotate_left
  · intro w'
    go_simp
    with_reducible rfl
  rotate_left
  · simp only [Act.put, List.setIfInBounds_toArray, List.set_cons_zero, List.set_cons_succ, i64_w, i32_w]
    rfl
  refine take_ (i := 0) (N := (some 10)) (v := ?_) (a' := ?_) #[true, false, false, false, true, false, false, false, false] rfl rfl (take_ofW HT_.out HW_.out (by kernel_rfl)) (fun _ _ _ h => h) (Or.inl ⟨by rfl, ?_⟩) hHeld ?_ ?_
  rotate_left
  · rintro w' ⟨s0, s1, s2, s3⟩
    go_simp
    with_reducible rfl
  rotate_left
  · simp only [Act.put, List.setIfInBounds_toArray, List.set_cons_zero, List.set_cons_succ, i64_w, i32_w]
    rfl
  refine pure_ (i := 1) (N := (some 11)) (v := ?_) (a' := ?_) #[true, true, false, false, true, false, false, false, false] rfl rfl (any_of HT_.out (by kernel_rfl)) (fun _ _ _ h => h) (Or.inl ⟨by rfl, ?_⟩) ?_ ?_
  rotate_left
  · intro w'
    go_simp
    with_reducible rfl
  rotate_left
  · simp only [Act.put, List.setIfInBounds_toArray, List.set_cons_zero, List.set_cons_succ, i64_w, i32_w]
    rfl
  refine pure_ (i := 2) (N := (some 12)) (v := ?_) (a' := ?_) #[true, true, true, false, true, false, false, false, false] rfl rfl (any_of HT_.out (by kernel_rfl)) (fun _ _ _ h => h) (Or.inl ⟨by rfl, ?_⟩) ?_ ?_
  rotate_left
  · intro w'
    go_simp
    with_reducible rfl
  rotate_left
  · simp only [Act.put, List.setIfInBounds_toArray, List.set_cons_zero, List.set_cons_succ, i64_w, i32_w]
    rfl
  refine take_ (i := 3) (N := (some 13)) (v := ?_) (a' := ?_) #[true, true, true, true, true, false, false, false, false] rfl rfl (take_ofW HT_.out HW_.out (by kernel_rfl)) (fun _ _ _ h => h) (Or.inl ⟨by rfl, ?_⟩) hHeld ?_ ?_
  rotate_left
  · rintro w' ⟨s0, s1, s2, s3⟩
    go_simp
    with_reducible rfl
  rotate_left
  · simp only [Act.put, List.setIfInBounds_toArray, List.set_cons_zero, List.set_cons_succ, i64_w, i32_w]
    rfl
  refine take_ (i := 5) (N := (some 15)) (v := ?_) (a' := ?_) #[true, true, true, true, true, true, false, false, false] rfl rfl (take_ofW HT_.out HW_.out (by kernel_rfl)) (fun _ _ _ h => h) (Or.inl ⟨by rfl, ?_⟩) hHeld ?_ ?_
  rotate_left
  · rintro w' ⟨s0, s1, s2, s3⟩
    go_simp
    with_reducible rfl
  rotate_left
  · simp only [Act.put, List.setIfInBounds_toArray, List.set_cons_zero, List.set_cons_succ, i64_w, i32_w]
    rfl
  refine take_ (i := 6) (N := (some 16)) (v := ?_) (a' := ?_) #[true, true, true, true, true, true, true, false, false] rfl rfl (take_ofW HT_.out HW_.out (by kernel_rfl)) (fun _ _ _ h => h) (Or.inl ⟨by rfl, ?_⟩) hHeld ?_ ?_
  rotate_left
  · rintro w' ⟨s0, s1, s2, s3⟩
    go_simp
    with_reducible rfl
  rotate_left
  · simp only [Act.put, List.setIfInBounds_toArray, List.set_cons_zero, List.set_cons_succ, i64_w, i32_w]
    rfl
  refine one_ (i := 7) (N := (some 5)) #[true, true, true, true, true, true, true, true, false] rfl rfl (one_of HT_.out (by kernel_rfl)) (by decide) (fun K hK => ?_)
  refine value_ (by rfl) rfl (v := .pointer (some ⟨w3.heap.size, 0, none⟩)) (w1 := w3.alloc (.cells #[.int .i64 0, .int .i64 0] 122)) (by go_simp <;> rfl) ?_
  refine hK.out _ _ ⟨(HJ3.out.alloc _).cells.1, (HJ3.out.alloc _).cells.2.1, (HJ3.out.alloc _).cells.2.2, (HJ3.out.alloc _).md.look hkl _ rfl⟩ (fun hHeld => ?_)
  clear hK K
  refine norm_ (a' := ?_) ?_ ?_
  rotate_left
  · show Act.put _ (some 5) _ = _
    simp only [Act.put, List.setIfInBounds_toArray, List.set_cons_zero, List.set_cons_succ, i64_w, i32_w]
    rfl
  refine last_ (i := 8) (N := none) #[true, true, true, true, true, true, true, true, true] rfl rfl (one_of HT_.out (by kernel_rfl)) (by decide) (fun K hK => ?_)
  refine skip_ (by rfl) rfl (w1 := w3.alloc (.cells #[.int .i64 (m.st e.h), .int .i64 (m.dl e.h)] 122)) (by go_simp <;> rfl) ?_
  refine hK.out _ _ ?_
  clear hK K
  refine done_ (done_of HT_.out (by kernel_rfl)) ?_
  clear hHeld
  have hcx := fun i => blk_cell (HJ3.out.alloc (.cells #[.int .i64 (m.st e.h), .int .i64 (m.dl e.h)] 122)).xb i
  have hce := fun i => blk_cell (HJ3.out.alloc (.cells #[.int .i64 (m.st e.h), .int .i64 (m.dl e.h)] 122)).eb i
  have hcm := fun i => (HJ3.out.alloc (.cells #[.int .i64 (m.st e.h), .int .i64 (m.dl e.h)] 122)).md.cell i
  have HK := Aside0.mk (show Dk w (w3.alloc (.cells #[.int .i64 (m.st e.h), .int .i64 (m.dl e.h)] 122)) B b n m1 m2 m e w3.heap.size from ⟨HJ3.out.alloc _, blk_new _ _⟩)
  clear hkl
  have CP : Aside0 (∀ W, Dk w W B b n m1 m2 m e w3.heap.size → Calls Try.prog 76 #[pA b, .agg (evA e), .bool (m.st e.h == 1)] W (DoPost W B b n m1 m2 (pointF m e))) := ⟨fun W hW => point_any e HW.out HN.out HWL.out hW.dj.md⟩
  go_wp2_with (go_at_call 76; (with_reducible refine (CP.out _ HK.out).mono ?_); rintro r w4 ⟨rfl, hm, hf⟩; have HM := Aside0.mk (And.intro hm (HK.out.dj.fr.trans hf)); clear hm hf)
  go_ret
  exact DoPost.of HF.out rfl HM.out.1 HM.out.2
set_option maxHeartbeats 4000000 in
set_option maxRecDepth 100000 in
theorem do_tick {w : World} {B b n m1 m2 : Nat} {m : Md} (e : Ev) (hw : (Lit.int .i64 e.hn).wf = true ∧ (Lit.int .i64 e.hg).wf = true ∧ (Lit.int .i64 e.nn).wf = true ∧ (Lit.int .i64 e.ng).wf = true) (hn : n + 1 ≤ 1000000) (hwl : ∀ x, (Lit.int .i64 ((m.lst x).getD 0)).wf = true) (h : MdIs w B b n m m1 m2) (hr : rightJ e = true) (hk : e.k = 1) :
    Calls Try.prog 43 #[pA b, .agg (evA e)] w (DoPost w B b n m1 m2 (doF m e)) := by
  have hu0 := Try.underlying125
  have hu1 := Try.underlying34
  have hu2 := Try.underlying54
  have hu3 := Try.underlying122
  have hmf : ∀ (fn : Fn) (first cap : Array Value) (w : World), (Instr.makeFunc fn first cap).run Try.prog w = .ok (.func fn first cap) w := fun _ _ _ _ => rfl
  have HF := Aside0.mk (show doF m e = unF (e.t == wrap64 (m.clk + 1)) { m with clk := e.t } m by unfold doF; rw [if_neg (by rw [hr]; simp), if_pos hk]; unfold unF; by_cases ht : e.t = wrap64 (m.clk + 1) <;> simp [ht])
  have k1 : (e.k == 1) = true := beq_iff_eq.2 (hk)
  have k4 : (e.k == 4) = false := beq_eq_false_iff_ne.2 (by omega)
  have k3 : (e.k == 3) = false := beq_eq_false_iff_ne.2 (by omega)
  have CR := Aside0.mk (fun W => right_run e W)
  rw [hr] at CR
  have HW := Aside0.mk hw
  have HN := Aside0.mk hn
  have HWL := Aside0.mk hwl
  have HJ := Aside0.mk (Dj.start h e)
  clear hw hn hwl h hr hk
  have hcx := fun i => blk_cell HJ.out.xb i
  have hce := fun i => blk_cell HJ.out.eb i
  have hlx := blk_lt HJ.out.xb
  have hle := blk_lt HJ.out.eb
  have hcm := fun i => HJ.out.md.cell i
  have hlm := HJ.out.md.lt
  go_enter Try.func43, Try.ntmps43
  go_wp2_with (first | (go_at_call 65; (with_reducible refine (CR.out _).mono ?_); rintro r w2 ⟨rfl, hb2⟩; have HJ2 := Aside0.mk (HJ.out.step hb2); clear hb2 hcx hce hlx hle hcm hlm; have HJ := HJ2; have hcx := fun i => blk_cell HJ.out.xb i; have hce := fun i => blk_cell HJ.out.eb i; have hlx := blk_lt HJ.out.xb; have hle := blk_lt HJ.out.eb; have hcm := fun i => HJ.out.md.cell i; have hlm := HJ.out.md.lt))
  obtain ⟨kl, hkl⟩ := keyH e.hn e.hg HW.out.1 HW.out.2.1
  refine start_ (n := 9) (S := (fun w' => (∀ i, w'.cell? ⟨b, i, none⟩ = (mdA m m1 m2)[i]?) ∧ (∀ i, w'.cell? ⟨w.heap.size, i, none⟩ = (#[pA b] : Array Value)[i]?) ∧ (∀ i, w'.cell? ⟨w.heap.size + 1, i, none⟩ = (evA e)[i]?) ∧ (Instr.lookup 123 (.map (some m1)) (haV e.h) false).run Try.prog w' = .ok (.agg #[.int .i64 (m.st e.h), .int .i64 (m.dl e.h)]) w')) (ds := [8]) #[false, false, false, false, false, false, false, false, false] (by kernel_rfl) rfl rfl ⟨HJ.out.drew.cells.1, HJ.out.drew.cells.2.1, HJ.out.drew.cells.2.2, HJ.out.drew.md.look hkl _ rfl⟩ (fun hHeld => ?_)
  refine with_tabW doR.tab3 doR.bits3 (fun HT_ HW_ => ?_)
  have HJ3 := Aside0.mk HJ.out.drew
  generalize World.drew _ = w3 at HJ3 hHeld ⊢
  clear HJ hcx hce hlx hle hcm hlm
  have hlx := blk_lt HJ3.out.xb
  have hle := blk_lt HJ3.out.eb
  have hlm := HJ3.out.md.lt
  refine pure_ (i := 4) (N := (some 14)) (v := ?_) (a' := ?_) #[false, false, false, false, true, false, false, false, false] rfl rfl (any_of HT_.out (by kernel_rfl)) (fun _ _ _ h => h) (Or.inl ⟨by rfl, ?_⟩) ?_ ?_
  rotate_left
  · intro w'
    go_simp
    with_reducible rfl
  rotate_left
  · simp only [Act.put, List.setIfInBounds_toArray, List.set_cons_zero, List.set_cons_succ, i64_w, i32_w]
    rfl
  refine take_ (i := 0) (N := (some 10)) (v := ?_) (a' := ?_) #[true, false, false, false, true, false, false, false, false] rfl rfl (take_ofW HT_.out HW_.out (by kernel_rfl)) (fun _ _ _ h => h) (Or.inl ⟨by rfl, ?_⟩) hHeld ?_ ?_
  rotate_left
  · rintro w' ⟨s0, s1, s2, s3⟩
    go_simp
    with_reducible rfl
  rotate_left
  · simp only [Act.put, List.setIfInBounds_toArray, List.set_cons_zero, List.set_cons_succ, i64_w, i32_w]
    rfl
  refine pure_ (i := 1) (N := (some 11)) (v := ?_) (a' := ?_) #[true, true, false, false, true, false, false, false, false] rfl rfl (any_of HT_.out (by kernel_rfl)) (fun _ _ _ h => h) (Or.inl ⟨by rfl, ?_⟩) ?_ ?_
  rotate_left
  · intro w'
    go_simp
    with_reducible rfl
  rotate_left
  · simp only [Act.put, List.setIfInBounds_toArray, List.set_cons_zero, List.set_cons_succ, i64_w, i32_w]
    rfl
  refine pure_ (i := 2) (N := (some 12)) (v := ?_) (a' := ?_) #[true, true, true, false, true, false, false, false, false] rfl rfl (any_of HT_.out (by kernel_rfl)) (fun _ _ _ h => h) (Or.inl ⟨by rfl, ?_⟩) ?_ ?_
  rotate_left
  · intro w'
    go_simp
    with_reducible rfl
  rotate_left
  · simp only [Act.put, List.setIfInBounds_toArray, List.set_cons_zero, List.set_cons_succ, i64_w, i32_w]
    rfl
  refine take_ (i := 3) (N := (some 13)) (v := ?_) (a' := ?_) #[true, true, true, true, true, false, false, false, false] rfl rfl (take_ofW HT_.out HW_.out (by kernel_rfl)) (fun _ _ _ h => h) (Or.inl ⟨by rfl, ?_⟩) hHeld ?_ ?_
  rotate_left
  · rintro w' ⟨s0, s1, s2, s3⟩
    go_simp
    with_reducible rfl
  rotate_left
  · simp only [Act.put, List.setIfInBounds_toArray, List.set_cons_zero, List.set_cons_succ, i64_w, i32_w]
    rfl
  refine take_ (i := 5) (N := (some 15)) (v := ?_) (a' := ?_) #[true, true, true, true, true, true, false, false, false] rfl rfl (take_ofW HT_.out HW_.out (by kernel_rfl)) (fun _ _ _ h => h) (Or.inl ⟨by rfl, ?_⟩) hHeld ?_ ?_
  rotate_left
  · rintro w' ⟨s0, s1, s2, s3⟩
    go_simp
    with_reducible rfl
  rotate_left
  · simp only [Act.put, List.setIfInBounds_toArray, List.set_cons_zero, List.set_cons_succ, i64_w, i32_w]
    rfl
  refine take_ (i := 6) (N := (some 16)) (v := ?_) (a' := ?_) #[true, true, true, true, true, true, true, false, false] rfl rfl (take_ofW HT_.out HW_.out (by kernel_rfl)) (fun _ _ _ h => h) (Or.inl ⟨by rfl, ?_⟩) hHeld ?_ ?_
  rotate_left
  · rintro w' ⟨s0, s1, s2, s3⟩
    go_simp
    with_reducible rfl
  rotate_left
  · simp only [Act.put, List.setIfInBounds_toArray, List.set_cons_zero, List.set_cons_succ, i64_w, i32_w]
    rfl
  refine one_ (i := 7) (N := (some 5)) #[true, true, true, true, true, true, true, true, false] rfl rfl (one_of HT_.out (by kernel_rfl)) (by decide) (fun K hK => ?_)
  refine value_ (by rfl) rfl (v := .pointer (some ⟨w3.heap.size, 0, none⟩)) (w1 := w3.alloc (.cells #[.int .i64 0, .int .i64 0] 122)) (by go_simp <;> rfl) ?_
  refine hK.out _ _ ⟨(HJ3.out.alloc _).cells.1, (HJ3.out.alloc _).cells.2.1, (HJ3.out.alloc _).cells.2.2, (HJ3.out.alloc _).md.look hkl _ rfl⟩ (fun hHeld => ?_)
  clear hK K
  refine norm_ (a' := ?_) ?_ ?_
  rotate_left
  · show Act.put _ (some 5) _ = _
    simp only [Act.put, List.setIfInBounds_toArray, List.set_cons_zero, List.set_cons_succ, i64_w, i32_w]
    rfl
  refine last_ (i := 8) (N := none) #[true, true, true, true, true, true, true, true, true] rfl rfl (one_of HT_.out (by kernel_rfl)) (by decide) (fun K hK => ?_)
  refine skip_ (by rfl) rfl (w1 := w3.alloc (.cells #[.int .i64 (m.st e.h), .int .i64 (m.dl e.h)] 122)) (by go_simp <;> rfl) ?_
  refine hK.out _ _ ?_
  clear hK K
  refine done_ (done_of HT_.out (by kernel_rfl)) ?_
  clear hHeld
  have hcx := fun i => blk_cell (HJ3.out.alloc (.cells #[.int .i64 (m.st e.h), .int .i64 (m.dl e.h)] 122)).xb i
  have hce := fun i => blk_cell (HJ3.out.alloc (.cells #[.int .i64 (m.st e.h), .int .i64 (m.dl e.h)] 122)).eb i
  have hcm := fun i => (HJ3.out.alloc (.cells #[.int .i64 (m.st e.h), .int .i64 (m.dl e.h)] 122)).md.cell i
  have HK := Aside0.mk (show Dk w (w3.alloc (.cells #[.int .i64 (m.st e.h), .int .i64 (m.dl e.h)] 122)) B b n m1 m2 m e w3.heap.size from ⟨HJ3.out.alloc _, blk_new _ _⟩)
  clear hkl
  go_upto_region 7 with (fail)
  refine gen_world' (fun W => Dk w W B b n m1 m2 m e w3.heap.size) (by exact HK.out) fun w4 HK4 => ?_
  obtain ⟨fb, hfb⟩ : ∃ fb, w3.heap.size = fb := ⟨_, rfl⟩
  rw [hfb] at HK4 ⊢
  have HK5 := Aside0.mk HK4.drew
  clear HK hfb HK4 hcx hce hlx hle hcm hlm
  refine start_ (n := 11) (S := (fun w' => (∀ i, w'.cell? ⟨b, i, none⟩ = (mdA m m1 m2)[i]?) ∧ (∀ i, w'.cell? ⟨w.heap.size, i, none⟩ = (#[pA b] : Array Value)[i]?) ∧ (∀ i, w'.cell? ⟨w.heap.size + 1, i, none⟩ = (evA e)[i]?) ∧ (∀ i, w'.cell? ⟨fb, i, none⟩ = (#[.int .i64 (m.st e.h), .int .i64 (m.dl e.h)] : Array Value)[i]?))) (ds := [9]) #[false, false, false, false, false, false, false, false, false, false, false] (by kernel_rfl) rfl rfl HK5.out.cells (fun hHeld => ?_)
  refine with_tabW doR.tab7 doR.bits7 (fun HT_ HW_ => ?_)
  have HK6 := HK5
  generalize w4.drew = w5 at HK5 HK6 hHeld ⊢
  clear HK5
  have hlm := HK6.out.dj.md.lt
  have hlx := blk_lt HK6.out.dj.xb
  have hle := blk_lt HK6.out.dj.eb
  have hlf := blk_lt HK6.out.fb
  refine pure_ (i := 0) (N := (some 24)) (v := ?_) (a' := ?_) #[true, false, false, false, false, false, false, false, false, false, false] rfl rfl (any_of HT_.out (by kernel_rfl)) (fun _ _ _ h => h) (Or.inl ⟨by rfl, ?_⟩) ?_ ?_
  rotate_left
  · intro w'
    go_simp
    with_reducible rfl
  rotate_left
  · simp only [Act.put, List.setIfInBounds_toArray, List.set_cons_zero, List.set_cons_succ, i64_w, i32_w]
    rfl
  refine pure_ (i := 8) (N := (some 32)) (v := ?_) (a' := ?_) #[true, false, false, false, false, false, false, false, true, false, false] rfl rfl (any_of HT_.out (by kernel_rfl)) (fun _ _ _ h => h) (Or.inl ⟨by rfl, ?_⟩) ?_ ?_
  rotate_left
  · intro w'
    go_simp
    with_reducible rfl
  rotate_left
  · simp only [Act.put, List.setIfInBounds_toArray, List.set_cons_zero, List.set_cons_succ, i64_w, i32_w]
    rfl
  refine take_ (i := 1) (N := (some 25)) (v := ?_) (a' := ?_) #[true, true, false, false, false, false, false, false, true, false, false] rfl rfl (take_ofW HT_.out HW_.out (by kernel_rfl)) (fun _ _ _ h => h) (Or.inl ⟨by rfl, ?_⟩) hHeld ?_ ?_
  rotate_left
  · rintro w' ⟨s0, s1, s2, s3⟩
    go_simp
    with_reducible rfl
  rotate_left
  · simp only [Act.put, List.setIfInBounds_toArray, List.set_cons_zero, List.set_cons_succ, i64_w, i32_w]
    rfl
  refine take_ (i := 2) (N := (some 26)) (v := ?_) (a' := ?_) #[true, true, true, false, false, false, false, false, true, false, false] rfl rfl (take_ofW HT_.out HW_.out (by kernel_rfl)) (fun _ _ _ h => h) (Or.inl ⟨by rfl, ?_⟩) hHeld ?_ ?_
  rotate_left
  · rintro w' ⟨s0, s1, s2, s3⟩
    go_simp
    with_reducible rfl
  rotate_left
  · simp only [Act.put, List.setIfInBounds_toArray, List.set_cons_zero, List.set_cons_succ, i64_w, i32_w]
    rfl
  refine pure_ (i := 3) (N := (some 27)) (v := ?_) (a' := ?_) #[true, true, true, true, false, false, false, false, true, false, false] rfl rfl (any_of HT_.out (by kernel_rfl)) (fun _ _ _ h => h) (Or.inl ⟨by rfl, ?_⟩) ?_ ?_
  rotate_left
  · intro w'
    go_simp
    with_reducible rfl
  rotate_left
  · simp only [Act.put, List.setIfInBounds_toArray, List.set_cons_zero, List.set_cons_succ, i64_w, i32_w]
    rfl
  refine pure_ (i := 4) (N := (some 28)) (v := ?_) (a' := ?_) #[true, true, true, true, true, false, false, false, true, false, false] rfl rfl (any_of HT_.out (by kernel_rfl)) (fun _ _ _ h => h) (Or.inl ⟨by rfl, ?_⟩) ?_ ?_
  rotate_left
  · intro w'
    go_simp
    with_reducible rfl
  rotate_left
  · simp only [Act.put, List.setIfInBounds_toArray, List.set_cons_zero, List.set_cons_succ, i64_w, i32_w]
    rfl
  refine take_ (i := 5) (N := (some 29)) (v := ?_) (a' := ?_) #[true, true, true, true, true, true, false, false, true, false, false] rfl rfl (take_ofW HT_.out HW_.out (by kernel_rfl)) (fun _ _ _ h => h) (Or.inl ⟨by rfl, ?_⟩) hHeld ?_ ?_
  rotate_left
  · rintro w' ⟨s0, s1, s2, s3⟩
    go_simp
    with_reducible rfl
  rotate_left
  · simp only [Act.put, List.setIfInBounds_toArray, List.set_cons_zero, List.set_cons_succ, i64_w, i32_w]
    rfl
  refine pure_ (i := 6) (N := (some 30)) (v := ?_) (a' := ?_) #[true, true, true, true, true, true, true, false, true, false, false] rfl rfl (any_of HT_.out (by kernel_rfl)) (fun _ _ _ h => h) (Or.inl ⟨by rfl, ?_⟩) ?_ ?_
  rotate_left
  · intro w'
    go_simp
    with_reducible rfl
  rotate_left
  · simp only [Act.put, List.setIfInBounds_toArray, List.set_cons_zero, List.set_cons_succ, i64_w, i32_w]
    rfl
  refine pure_ (i := 7) (N := (some 31)) (v := ?_) (a' := ?_) #[true, true, true, true, true, true, true, true, true, false, false] rfl rfl (any_of HT_.out (by kernel_rfl)) (fun _ _ _ h => h) (Or.inl ⟨by rfl, ?_⟩) ?_ ?_
  rotate_left
  · intro w'
    go_simp
    with_reducible rfl
  rotate_left
  · simp only [Act.put, List.setIfInBounds_toArray, List.set_cons_zero, List.set_cons_succ, i64_w, i32_w]
    rfl
  refine last_ (i := 9) (N := (some 33)) #[true, true, true, true, true, true, true, true, true, true, false] rfl rfl (one_of HT_.out (by kernel_rfl)) (by decide) (fun K hK => ?_)
  refine call_ (f := 73) #[.bool (e.t == wrap64 (m.clk + 1)), .func (.func 74) #[] #[pA (w.heap.size + 1), pA w.heap.size]] (by rfl) rfl (by go_simp <;> rfl) ?_
  refine (un_tick (e.t == wrap64 (m.clk + 1)) HK6.out.dj.md HK6.out.dj.eb HK6.out.dj.xb).mono ?_
  rintro r w6 ⟨rfl, hm, hf⟩
  refine ⟨_, rfl, ?_⟩
  have HM := Aside0.mk (And.intro hm (HK6.out.dj.fr.trans hf))
  clear hm hf
  refine hK.out _ _ ?_
  clear hK K
  refine norm_ (a' := ?_) ?_ ?_
  rotate_left
  · show Act.put _ (some 33) _ = _
    simp only [Act.put, List.setIfInBounds_toArray, List.set_cons_zero, List.set_cons_succ, i64_w, i32_w]
    rfl
  refine pure_ (i := 10) (N := (some 4)) (v := ?_) (a' := ?_) #[true, true, true, true, true, true, true, true, true, true, true] rfl rfl (any_of HT_.out (by kernel_rfl)) (fun _ _ _ h => h) (Or.inl ⟨by rfl, ?_⟩) ?_ ?_
  rotate_left
  · intro w'
    go_simp
    with_reducible rfl
  rotate_left
  · simp only [Act.put, List.setIfInBounds_toArray, List.set_cons_zero, List.set_cons_succ, i64_w, i32_w]
    rfl
  refine done_ (done_of HT_.out (by kernel_rfl)) ?_
  go_wp2
  go_ret
  exact DoPost.of HF.out rfl HM.out.1 HM.out.2
set_option maxHeartbeats 4000000 in
set_option maxRecDepth 100000 in
theorem do_fire_no {w : World} {B b n m1 m2 : Nat} {m : Md} (e : Ev) (hw : (Lit.int .i64 e.hn).wf = true ∧ (Lit.int .i64 e.hg).wf = true ∧ (Lit.int .i64 e.nn).wf = true ∧ (Lit.int .i64 e.ng).wf = true) (hn : n + 1 ≤ 1000000) (hwl : ∀ x, (Lit.int .i64 ((m.lst x).getD 0)).wf = true) (h : MdIs w B b n m m1 m2) (hr : rightJ e = true) (hk : e.k = 4) (ha : ¬ m.st e.h = 1) :
    Calls Try.prog 43 #[pA b, .agg (evA e)] w (DoPost w B b n m1 m2 (doF m e)) := by
  have hu0 := Try.underlying125
  have hu1 := Try.underlying34
  have hu2 := Try.underlying54
  have hu3 := Try.underlying122
  have hmf : ∀ (fn : Fn) (first cap : Array Value) (w : World), (Instr.makeFunc fn first cap).run Try.prog w = .ok (.func fn first cap) w := fun _ _ _ _ => rfl
  have HF := Aside0.mk (show doF m e = unF false (m.end_ e.h 2) m by unfold doF; rw [if_neg (by rw [hr]; simp), if_neg (by omega), if_pos hk]; rw [if_neg (fun q => ha q.1)]; rfl)
  have k1 : (e.k == 1) = false := beq_eq_false_iff_ne.2 (by omega)
  have k4 : (e.k == 4) = true := beq_iff_eq.2 (hk)
  have k3 : (e.k == 3) = false := beq_eq_false_iff_ne.2 (by omega)
  have a1 : ((m.st e.h) == 1) = false := beq_eq_false_iff_ne.2 (ha)
  have CR := Aside0.mk (fun W => right_run e W)
  rw [hr] at CR
  have HW := Aside0.mk hw
  have HN := Aside0.mk hn
  have HWL := Aside0.mk hwl
  have HJ := Aside0.mk (Dj.start h e)
  clear hw hn hwl h hr hk ha
  have hcx := fun i => blk_cell HJ.out.xb i
  have hce := fun i => blk_cell HJ.out.eb i
  have hlx := blk_lt HJ.out.xb
  have hle := blk_lt HJ.out.eb
  have hcm := fun i => HJ.out.md.cell i
  have hlm := HJ.out.md.lt
  go_enter Try.func43, Try.ntmps43
  go_wp2_with (first | (go_at_call 65; (with_reducible refine (CR.out _).mono ?_); rintro r w2 ⟨rfl, hb2⟩; have HJ2 := Aside0.mk (HJ.out.step hb2); clear hb2 hcx hce hlx hle hcm hlm; have HJ := HJ2; have hcx := fun i => blk_cell HJ.out.xb i; have hce := fun i => blk_cell HJ.out.eb i; have hlx := blk_lt HJ.out.xb; have hle := blk_lt HJ.out.eb; have hcm := fun i => HJ.out.md.cell i; have hlm := HJ.out.md.lt))
  obtain ⟨kl, hkl⟩ := keyH e.hn e.hg HW.out.1 HW.out.2.1
  refine start_ (n := 9) (S := (fun w' => (∀ i, w'.cell? ⟨b, i, none⟩ = (mdA m m1 m2)[i]?) ∧ (∀ i, w'.cell? ⟨w.heap.size, i, none⟩ = (#[pA b] : Array Value)[i]?) ∧ (∀ i, w'.cell? ⟨w.heap.size + 1, i, none⟩ = (evA e)[i]?) ∧ (Instr.lookup 123 (.map (some m1)) (haV e.h) false).run Try.prog w' = .ok (.agg #[.int .i64 (m.st e.h), .int .i64 (m.dl e.h)]) w')) (ds := [8]) #[false, false, false, false, false, false, false, false, false] (by kernel_rfl) rfl rfl ⟨HJ.out.drew.cells.1, HJ.out.drew.cells.2.1, HJ.out.drew.cells.2.2, HJ.out.drew.md.look hkl _ rfl⟩ (fun hHeld => ?_)
  refine with_tabW doR.tab3 doR.bits3 (fun HT_ HW_ => ?_)
  have HJ3 := Aside0.mk HJ.out.drew
  generalize World.drew _ = w3 at HJ3 hHeld ⊢
  clear HJ hcx hce hlx hle hcm hlm
  have hlx := blk_lt HJ3.out.xb
  have hle := blk_lt HJ3.out.eb
  have hlm := HJ3.out.md.lt
  refine pure_ (i := 4) (N := (some 14)) (v := ?_) (a' := ?_) #[false, false, false, false, true, false, false, false, false] rfl rfl (any_of HT_.out (by kernel_rfl)) (fun _ _ _ h => h) (Or.inl ⟨by rfl, ?_⟩) ?_ ?_
  rotate_left
  · intro w'
    go_simp
    with_reducible rfl
  rotate_left
  · simp only [Act.put, List.setIfInBounds_toArray, List.set_cons_zero, List.set_cons_succ, i64_w, i32_w]
    rfl
  refine take_ (i := 0) (N := (some 10)) (v := ?_) (a' := ?_) #[true, false, false, false, true, false, false, false, false] rfl rfl (take_ofW HT_.out HW_.out (by kernel_rfl)) (fun _ _ _ h => h) (Or.inl ⟨by rfl, ?_⟩) hHeld ?_ ?_
  rotate_left
  · rintro w' ⟨s0, s1, s2, s3⟩
    go_simp
    with_reducible rfl
  rotate_left
  · simp only [Act.put, List.setIfInBounds_toArray, List.set_cons_zero, List.set_cons_succ, i64_w, i32_w]
    rfl
  refine pure_ (i := 1) (N := (some 11)) (v := ?_) (a' := ?_) #[true, true, false, false, true, false, false, false, false] rfl rfl (any_of HT_.out (by kernel_rfl)) (fun _ _ _ h => h) (Or.inl ⟨by rfl, ?_⟩) ?_ ?_
  rotate_left
  · intro w'
    go_simp
    with_reducible rfl
  rotate_left
  · simp only [Act.put, List.setIfInBounds_toArray, List.set_cons_zero, List.set_cons_succ, i64_w, i32_w]
    rfl
  refine pure_ (i := 2) (N := (some 12)) (v := ?_) (a' := ?_) #[true, true, true, false, true, false, false, false, false] rfl rfl (any_of HT_.out (by kernel_rfl)) (fun _ _ _ h => h) (Or.inl ⟨by rfl, ?_⟩) ?_ ?_
  rotate_left
  · intro w'
    go_simp
    with_reducible rfl
  rotate_left
  · simp only [Act.put, List.setIfInBounds_toArray, List.set_cons_zero, List.set_cons_succ, i64_w, i32_w]
    rfl
  refine take_ (i := 3) (N := (some 13)) (v := ?_) (a' := ?_) #[true, true, true, true, true, false, false, false, false] rfl rfl (take_ofW HT_.out HW_.out (by kernel_rfl)) (fun _ _ _ h => h) (Or.inl ⟨by rfl, ?_⟩) hHeld ?_ ?_
  rotate_left
  · rintro w' ⟨s0, s1, s2, s3⟩
    go_simp
    with_reducible rfl
  rotate_left
  · simp only [Act.put, List.setIfInBounds_toArray, List.set_cons_zero, List.set_cons_succ, i64_w, i32_w]
    rfl
  refine take_ (i := 5) (N := (some 15)) (v := ?_) (a' := ?_) #[true, true, true, true, true, true, false, false, false] rfl rfl (take_ofW HT_.out HW_.out (by kernel_rfl)) (fun _ _ _ h => h) (Or.inl ⟨by rfl, ?_⟩) hHeld ?_ ?_
  rotate_left
  · rintro w' ⟨s0, s1, s2, s3⟩
    go_simp
    with_reducible rfl
  rotate_left
  · simp only [Act.put, List.setIfInBounds_toArray, List.set_cons_zero, List.set_cons_succ, i64_w, i32_w]
    rfl
  refine take_ (i := 6) (N := (some 16)) (v := ?_) (a' := ?_) #[true, true, true, true, true, true, true, false, false] rfl rfl (take_ofW HT_.out HW_.out (by kernel_rfl)) (fun _ _ _ h => h) (Or.inl ⟨by rfl, ?_⟩) hHeld ?_ ?_
  rotate_left
  · rintro w' ⟨s0, s1, s2, s3⟩
    go_simp
    with_reducible rfl
  rotate_left
  · simp only [Act.put, List.setIfInBounds_toArray, List.set_cons_zero, List.set_cons_succ, i64_w, i32_w]
    rfl
  refine one_ (i := 7) (N := (some 5)) #[true, true, true, true, true, true, true, true, false] rfl rfl (one_of HT_.out (by kernel_rfl)) (by decide) (fun K hK => ?_)
  refine value_ (by rfl) rfl (v := .pointer (some ⟨w3.heap.size, 0, none⟩)) (w1 := w3.alloc (.cells #[.int .i64 0, .int .i64 0] 122)) (by go_simp <;> rfl) ?_
  refine hK.out _ _ ⟨(HJ3.out.alloc _).cells.1, (HJ3.out.alloc _).cells.2.1, (HJ3.out.alloc _).cells.2.2, (HJ3.out.alloc _).md.look hkl _ rfl⟩ (fun hHeld => ?_)
  clear hK K
  refine norm_ (a' := ?_) ?_ ?_
  rotate_left
  · show Act.put _ (some 5) _ = _
    simp only [Act.put, List.setIfInBounds_toArray, List.set_cons_zero, List.set_cons_succ, i64_w, i32_w]
    rfl
  refine last_ (i := 8) (N := none) #[true, true, true, true, true, true, true, true, true] rfl rfl (one_of HT_.out (by kernel_rfl)) (by decide) (fun K hK => ?_)
  refine skip_ (by rfl) rfl (w1 := w3.alloc (.cells #[.int .i64 (m.st e.h), .int .i64 (m.dl e.h)] 122)) (by go_simp <;> rfl) ?_
  refine hK.out _ _ ?_
  clear hK K
  refine done_ (done_of HT_.out (by kernel_rfl)) ?_
  clear hHeld
  have hcx := fun i => blk_cell (HJ3.out.alloc (.cells #[.int .i64 (m.st e.h), .int .i64 (m.dl e.h)] 122)).xb i
  have hce := fun i => blk_cell (HJ3.out.alloc (.cells #[.int .i64 (m.st e.h), .int .i64 (m.dl e.h)] 122)).eb i
  have hcm := fun i => (HJ3.out.alloc (.cells #[.int .i64 (m.st e.h), .int .i64 (m.dl e.h)] 122)).md.cell i
  have HK := Aside0.mk (show Dk w (w3.alloc (.cells #[.int .i64 (m.st e.h), .int .i64 (m.dl e.h)] 122)) B b n m1 m2 m e w3.heap.size from ⟨HJ3.out.alloc _, blk_new _ _⟩)
  clear hkl
  go_upto_region 9 with (fail)
  refine gen_world' (fun W => Dk w W B b n m1 m2 m e w3.heap.size) (by exact HK.out) fun w4 HK4 => ?_
  obtain ⟨fb, hfb⟩ : ∃ fb, w3.heap.size = fb := ⟨_, rfl⟩
  rw [hfb] at HK4 ⊢
  have HK5 := Aside0.mk HK4.drew
  clear HK hfb HK4 hcx hce hlx hle hcm hlm
  refine start_ (n := 23) (S := (fun w' => (∀ i, w'.cell? ⟨b, i, none⟩ = (mdA m m1 m2)[i]?) ∧ (∀ i, w'.cell? ⟨w.heap.size, i, none⟩ = (#[pA b] : Array Value)[i]?) ∧ (∀ i, w'.cell? ⟨w.heap.size + 1, i, none⟩ = (evA e)[i]?) ∧ (∀ i, w'.cell? ⟨fb, i, none⟩ = (#[.int .i64 (m.st e.h), .int .i64 (m.dl e.h)] : Array Value)[i]?))) (ds := [21]) #[false, false, false, false, false, false, false, false, false, false, false, false, false, false, false, false, false, false, false, false, false, false, false] (by kernel_rfl) rfl rfl HK5.out.cells (fun hHeld => ?_)
  refine with_tabW doR.tab9 doR.bits9 (fun HT_ HW_ => ?_)
  have HK6 := HK5
  generalize w4.drew = w5 at HK5 HK6 hHeld ⊢
  clear HK5
  have hlm := HK6.out.dj.md.lt
  have hlx := blk_lt HK6.out.dj.xb
  have hle := blk_lt HK6.out.dj.eb
  have hlf := blk_lt HK6.out.fb
  refine pure_ (i := 0) (N := (some 36)) (v := ?_) (a' := ?_) #[true, false, false, false, false, false, false, false, false, false, false, false, false, false, false, false, false, false, false, false, false, false, false] rfl rfl (any_of HT_.out (by kernel_rfl)) (fun _ _ _ h => h) (Or.inl ⟨by rfl, ?_⟩) ?_ ?_
  rotate_left
  · intro w'
    go_simp
    with_reducible rfl
  rotate_left
  · simp only [Act.put, List.setIfInBounds_toArray, List.set_cons_zero, List.set_cons_succ, i64_w, i32_w]
    rfl
  refine pure_ (i := 1) (N := (some 37)) (v := ?_) (a' := ?_) #[true, true, false, false, false, false, false, false, false, false, false, false, false, false, false, false, false, false, false, false, false, false, false] rfl rfl (any_of HT_.out (by kernel_rfl)) (fun _ _ _ h => h) (Or.inl ⟨by rfl, ?_⟩) ?_ ?_
  rotate_left
  · intro w'
    go_simp
    with_reducible rfl
  rotate_left
  · simp only [Act.put, List.setIfInBounds_toArray, List.set_cons_zero, List.set_cons_succ, i64_w, i32_w]
    rfl
  refine pure_ (i := 2) (N := (some 38)) (v := undef) (a' := ?_) #[true, true, true, false, false, false, false, false, false, false, false, false, false, false, false, false, false, false, false, false, false, false, false] rfl rfl (any_of HT_.out (by kernel_rfl)) (fun _ _ _ h => h) (Or.inr ⟨by rfl, rfl⟩) ?_ ?_
  rotate_left
  · simp only [Act.put, List.setIfInBounds_toArray, List.set_cons_zero, List.set_cons_succ, i64_w, i32_w]
    rfl
  refine pure_ (i := 3) (N := (some 39)) (v := undef) (a' := ?_) #[true, true, true, true, false, false, false, false, false, false, false, false, false, false, false, false, false, false, false, false, false, false, false] rfl rfl (any_of HT_.out (by kernel_rfl)) (fun _ _ _ h => h) (Or.inr ⟨by rfl, rfl⟩) ?_ ?_
  rotate_left
  · simp only [Act.put, List.setIfInBounds_toArray, List.set_cons_zero, List.set_cons_succ, i64_w, i32_w]
    rfl
  refine pure_ (i := 4) (N := (some 40)) (v := undef) (a' := ?_) #[true, true, true, true, true, false, false, false, false, false, false, false, false, false, false, false, false, false, false, false, false, false, false] rfl rfl (any_of HT_.out (by kernel_rfl)) (fun _ _ _ h => h) (Or.inr ⟨by rfl, rfl⟩) ?_ ?_
  rotate_left
  · simp only [Act.put, List.setIfInBounds_toArray, List.set_cons_zero, List.set_cons_succ, i64_w, i32_w]
    rfl
  refine pure_ (i := 5) (N := (some 41)) (v := undef) (a' := ?_) #[true, true, true, true, true, true, false, false, false, false, false, false, false, false, false, false, false, false, false, false, false, false, false] rfl rfl (any_of HT_.out (by kernel_rfl)) (fun _ _ _ h => h) (Or.inr ⟨by rfl, rfl⟩) ?_ ?_
  rotate_left
  · simp only [Act.put, List.setIfInBounds_toArray, List.set_cons_zero, List.set_cons_succ, i64_w, i32_w]
    rfl
  refine pure_ (i := 6) (N := (some 42)) (v := undef) (a' := ?_) #[true, true, true, true, true, true, true, false, false, false, false, false, false, false, false, false, false, false, false, false, false, false, false] rfl rfl (any_of HT_.out (by kernel_rfl)) (fun _ _ _ h => h) (Or.inr ⟨by rfl, rfl⟩) ?_ ?_
  rotate_left
  · simp only [Act.put, List.setIfInBounds_toArray, List.set_cons_zero, List.set_cons_succ, i64_w, i32_w]
    rfl
  refine pure_ (i := 7) (N := (some 43)) (v := ?_) (a' := ?_) #[true, true, true, true, true, true, true, true, false, false, false, false, false, false, false, false, false, false, false, false, false, false, false] rfl rfl (any_of HT_.out (by kernel_rfl)) (fun _ _ _ h => h) (Or.inl ⟨by rfl, ?_⟩) ?_ ?_
  rotate_left
  · intro w'
    go_simp
    with_reducible rfl
  rotate_left
  · simp only [Act.put, List.setIfInBounds_toArray, List.set_cons_zero, List.set_cons_succ, i64_w, i32_w]
    rfl
  refine pure_ (i := 8) (N := (some 44)) (v := ?_) (a' := ?_) #[true, true, true, true, true, true, true, true, true, false, false, false, false, false, false, false, false, false, false, false, false, false, false] rfl rfl (any_of HT_.out (by kernel_rfl)) (fun _ _ _ h => h) (Or.inl ⟨by rfl, ?_⟩) ?_ ?_
  rotate_left
  · intro w'
    go_simp
    with_reducible rfl
  rotate_left
  · simp only [Act.put, List.setIfInBounds_toArray, List.set_cons_zero, List.set_cons_succ, i64_w, i32_w]
    rfl
  refine pure_ (i := 9) (N := (some 45)) (v := undef) (a' := ?_) #[true, true, true, true, true, true, true, true, true, true, false, false, false, false, false, false, false, false, false, false, false, false, false] rfl rfl (any_of HT_.out (by kernel_rfl)) (fun _ _ _ h => h) (Or.inr ⟨by rfl, rfl⟩) ?_ ?_
  rotate_left
  · simp only [Act.put, List.setIfInBounds_toArray, List.set_cons_zero, List.set_cons_succ, i64_w, i32_w]
    rfl
  refine pure_ (i := 10) (N := (some 46)) (v := undef) (a' := ?_) #[true, true, true, true, true, true, true, true, true, true, true, false, false, false, false, false, false, false, false, false, false, false, false] rfl rfl (any_of HT_.out (by kernel_rfl)) (fun _ _ _ h => h) (Or.inr ⟨by rfl, rfl⟩) ?_ ?_
  rotate_left
  · simp only [Act.put, List.setIfInBounds_toArray, List.set_cons_zero, List.set_cons_succ, i64_w, i32_w]
    rfl
  refine pure_ (i := 11) (N := (some 47)) (v := undef) (a' := ?_) #[true, true, true, true, true, true, true, true, true, true, true, true, false, false, false, false, false, false, false, false, false, false, false] rfl rfl (any_of HT_.out (by kernel_rfl)) (fun _ _ _ h => h) (Or.inr ⟨by rfl, rfl⟩) ?_ ?_
  rotate_left
  · simp only [Act.put, List.setIfInBounds_toArray, List.set_cons_zero, List.set_cons_succ, i64_w, i32_w]
    rfl
  refine pure_ (i := 12) (N := (some 48)) (v := undef) (a' := ?_) #[true, true, true, true, true, true, true, true, true, true, true, true, true, false, false, false, false, false, false, false, false, false, false] rfl rfl (any_of HT_.out (by kernel_rfl)) (fun _ _ _ h => h) (Or.inr ⟨by rfl, rfl⟩) ?_ ?_
  rotate_left
  · simp only [Act.put, List.setIfInBounds_toArray, List.set_cons_zero, List.set_cons_succ, i64_w, i32_w]
    rfl
  refine pure_ (i := 13) (N := (some 49)) (v := undef) (a' := ?_) #[true, true, true, true, true, true, true, true, true, true, true, true, true, true, false, false, false, false, false, false, false, false, false] rfl rfl (any_of HT_.out (by kernel_rfl)) (fun _ _ _ h => h) (Or.inr ⟨by rfl, rfl⟩) ?_ ?_
  rotate_left
  · simp only [Act.put, List.setIfInBounds_toArray, List.set_cons_zero, List.set_cons_succ, i64_w, i32_w]
    rfl
  refine pure_ (i := 14) (N := (some 50)) (v := undef) (a' := ?_) #[true, true, true, true, true, true, true, true, true, true, true, true, true, true, true, false, false, false, false, false, false, false, false] rfl rfl (any_of HT_.out (by kernel_rfl)) (fun _ _ _ h => h) (Or.inr ⟨by rfl, rfl⟩) ?_ ?_
  rotate_left
  · simp only [Act.put, List.setIfInBounds_toArray, List.set_cons_zero, List.set_cons_succ, i64_w, i32_w]
    rfl
  refine pure_ (i := 15) (N := (some 51)) (v := undef) (a' := ?_) #[true, true, true, true, true, true, true, true, true, true, true, true, true, true, true, true, false, false, false, false, false, false, false] rfl rfl (any_of HT_.out (by kernel_rfl)) (fun _ _ _ h => h) (Or.inr ⟨by rfl, rfl⟩) ?_ ?_
  rotate_left
  · simp only [Act.put, List.setIfInBounds_toArray, List.set_cons_zero, List.set_cons_succ, i64_w, i32_w]
    rfl
  refine pure_ (i := 16) (N := (some 52)) (v := ?_) (a' := ?_) #[true, true, true, true, true, true, true, true, true, true, true, true, true, true, true, true, true, false, false, false, false, false, false] rfl rfl (any_of HT_.out (by kernel_rfl)) (fun _ _ _ h => h) (Or.inl ⟨by rfl, ?_⟩) ?_ ?_
  rotate_left
  · intro w'
    go_simp
    with_reducible rfl
  rotate_left
  · simp only [Act.put, List.setIfInBounds_toArray, List.set_cons_zero, List.set_cons_succ, i64_w, i32_w]
    rfl
  refine pure_ (i := 18) (N := (some 54)) (v := ?_) (a' := ?_) #[true, true, true, true, true, true, true, true, true, true, true, true, true, true, true, true, true, false, true, false, false, false, false] rfl rfl (any_of HT_.out (by kernel_rfl)) (fun _ _ _ h => h) (Or.inl ⟨by rfl, ?_⟩) ?_ ?_
  rotate_left
  · intro w'
    go_simp
    with_reducible rfl
  rotate_left
  · simp only [Act.put, List.setIfInBounds_toArray, List.set_cons_zero, List.set_cons_succ, i64_w, i32_w]
    rfl
  refine take_ (i := 17) (N := (some 53)) (v := ?_) (a' := ?_) #[true, true, true, true, true, true, true, true, true, true, true, true, true, true, true, true, true, true, true, false, false, false, false] rfl rfl (take_ofW HT_.out HW_.out (by kernel_rfl)) (fun _ _ _ h => h) (Or.inl ⟨by rfl, ?_⟩) hHeld ?_ ?_
  rotate_left
  · rintro w' ⟨s0, s1, s2, s3⟩
    go_simp
    with_reducible rfl
  rotate_left
  · simp only [Act.put, List.setIfInBounds_toArray, List.set_cons_zero, List.set_cons_succ, i64_w, i32_w]
    rfl
  refine take_ (i := 19) (N := (some 55)) (v := ?_) (a' := ?_) #[true, true, true, true, true, true, true, true, true, true, true, true, true, true, true, true, true, true, true, true, false, false, false] rfl rfl (take_ofW HT_.out HW_.out (by kernel_rfl)) (fun _ _ _ h => h) (Or.inl ⟨by rfl, ?_⟩) hHeld ?_ ?_
  rotate_left
  · rintro w' ⟨s0, s1, s2, s3⟩
    go_simp
    with_reducible rfl
  rotate_left
  · simp only [Act.put, List.setIfInBounds_toArray, List.set_cons_zero, List.set_cons_succ, i64_w, i32_w]
    rfl
  refine one_ (i := 20) (N := (some 56)) #[true, true, true, true, true, true, true, true, true, true, true, true, true, true, true, true, true, true, true, true, true, false, false] rfl rfl (one_of HT_.out (by kernel_rfl)) (by decide) (fun K hK => ?_)
  refine call_ (f := 75) #[pA b, .agg #[.int .i64 e.hn, .int .i64 e.hg], .int .i64 2] (by rfl) rfl (by go_simp <;> rfl) ?_
  refine (end_new b e.hn e.hg 2 w5).mono ?_
  rintro r w6 ⟨sb, xb, hb, rfl, h3, hb2⟩
  refine ⟨_, rfl, ?_⟩
  have HE := Aside0.mk (And.intro h3 (HK6.out.step hb2))
  clear h3 hb2
  refine hK.out _ _ HE.out.2.cells (fun hHeld => ?_)
  clear hK K
  refine norm_ (a' := ?_) ?_ ?_
  rotate_left
  · show Act.put _ (some 56) _ = _
    simp only [Act.put, List.setIfInBounds_toArray, List.set_cons_zero, List.set_cons_succ, i64_w, i32_w]
    rfl
  refine last_ (i := 21) (N := (some 57)) #[true, true, true, true, true, true, true, true, true, true, true, true, true, true, true, true, true, true, true, true, true, true, false] rfl rfl (one_of HT_.out (by kernel_rfl)) (by decide) (fun K hK => ?_)
  refine call_ (f := 73) #[.bool false, .func (.func 99) #[] #[pA sb, pA xb, pA hb]] (by rfl) rfl (by first | (go_simp <;> rfl) | (simp only [HTC.out]; go_simp <;> rfl)) ?_
  refine (un_end false 2 e.hn e.hg (by have := HN.out; omega) HW.out.1 HW.out.2.1 HE.out.2.dj.md HE.out.1).mono ?_
  rintro r w7 ⟨rfl, hm, hf⟩
  refine ⟨_, rfl, ?_⟩
  have HM := Aside0.mk (And.intro hm (HE.out.2.dj.fr.trans hf))
  clear hm hf
  refine hK.out _ _ ?_
  clear hK K
  refine norm_ (a' := ?_) ?_ ?_
  rotate_left
  · show Act.put _ (some 57) _ = _
    simp only [Act.put, List.setIfInBounds_toArray, List.set_cons_zero, List.set_cons_succ, i64_w, i32_w]
    rfl
  refine pure_ (i := 22) (N := (some 4)) (v := ?_) (a' := ?_) #[true, true, true, true, true, true, true, true, true, true, true, true, true, true, true, true, true, true, true, true, true, true, true] rfl rfl (any_of HT_.out (by kernel_rfl)) (fun _ _ _ h => h) (Or.inl ⟨by rfl, ?_⟩) ?_ ?_
  rotate_left
  · intro w'
    go_simp
    with_reducible rfl
  rotate_left
  · simp only [Act.put, List.setIfInBounds_toArray, List.set_cons_zero, List.set_cons_succ, i64_w, i32_w]
    rfl
  refine done_ (done_of HT_.out (by kernel_rfl)) ?_
  go_wp2
  go_ret
  exact DoPost.of HF.out rfl HM.out.1 HM.out.2
set_option maxHeartbeats 4000000 in
set_option maxRecDepth 100000 in
theorem do_fire_early {w : World} {B b n m1 m2 : Nat} {m : Md} (e : Ev) (hw : (Lit.int .i64 e.hn).wf = true ∧ (Lit.int .i64 e.hg).wf = true ∧ (Lit.int .i64 e.nn).wf = true ∧ (Lit.int .i64 e.ng).wf = true) (hn : n + 1 ≤ 1000000) (hwl : ∀ x, (Lit.int .i64 ((m.lst x).getD 0)).wf = true) (h : MdIs w B b n m m1 m2) (hr : rightJ e = true) (hk : e.k = 4) (ha : m.st e.h = 1) (hd : ¬ m.dl e.h ≤ e.t) :
    Calls Try.prog 43 #[pA b, .agg (evA e)] w (DoPost w B b n m1 m2 (doF m e)) := by
  have hu0 := Try.underlying125
  have hu1 := Try.underlying34
  have hu2 := Try.underlying54
  have hu3 := Try.underlying122
  have hmf : ∀ (fn : Fn) (first cap : Array Value) (w : World), (Instr.makeFunc fn first cap).run Try.prog w = .ok (.func fn first cap) w := fun _ _ _ _ => rfl
  have HF := Aside0.mk (show doF m e = unF false (m.end_ e.h 2) m by unfold doF; rw [if_neg (by rw [hr]; simp), if_neg (by omega), if_pos hk]; rw [if_neg (fun q => hd q.2.1)]; rfl)
  have k1 : (e.k == 1) = false := beq_eq_false_iff_ne.2 (by omega)
  have k4 : (e.k == 4) = true := beq_iff_eq.2 (hk)
  have k3 : (e.k == 3) = false := beq_eq_false_iff_ne.2 (by omega)
  have a1 : ((m.st e.h) == 1) = true := beq_iff_eq.2 (ha)
  have d1 : decide (m.dl e.h ≤ e.t) = false := decide_eq_false hd
  have CR := Aside0.mk (fun W => right_run e W)
  rw [hr] at CR
  have HW := Aside0.mk hw
  have HN := Aside0.mk hn
  have HWL := Aside0.mk hwl
  have HJ := Aside0.mk (Dj.start h e)
  clear hw hn hwl h hr hk ha hd
  have hcx := fun i => blk_cell HJ.out.xb i
  have hce := fun i => blk_cell HJ.out.eb i
  have hlx := blk_lt HJ.out.xb
  have hle := blk_lt HJ.out.eb
  have hcm := fun i => HJ.out.md.cell i
  have hlm := HJ.out.md.lt
  go_enter Try.func43, Try.ntmps43
  go_wp2_with (first | (go_at_call 65; (with_reducible refine (CR.out _).mono ?_); rintro r w2 ⟨rfl, hb2⟩; have HJ2 := Aside0.mk (HJ.out.step hb2); clear hb2 hcx hce hlx hle hcm hlm; have HJ := HJ2; have hcx := fun i => blk_cell HJ.out.xb i; have hce := fun i => blk_cell HJ.out.eb i; have hlx := blk_lt HJ.out.xb; have hle := blk_lt HJ.out.eb; have hcm := fun i => HJ.out.md.cell i; have hlm := HJ.out.md.lt))
  obtain ⟨kl, hkl⟩ := keyH e.hn e.hg HW.out.1 HW.out.2.1
  refine start_ (n := 9) (S := (fun w' => (∀ i, w'.cell? ⟨b, i, none⟩ = (mdA m m1 m2)[i]?) ∧ (∀ i, w'.cell? ⟨w.heap.size, i, none⟩ = (#[pA b] : Array Value)[i]?) ∧ (∀ i, w'.cell? ⟨w.heap.size + 1, i, none⟩ = (evA e)[i]?) ∧ (Instr.lookup 123 (.map (some m1)) (haV e.h) false).run Try.prog w' = .ok (.agg #[.int .i64 (m.st e.h), .int .i64 (m.dl e.h)]) w')) (ds := [8]) #[false, false, false, false, false, false, false, false, false] (by kernel_rfl) rfl rfl ⟨HJ.out.drew.cells.1, HJ.out.drew.cells.2.1, HJ.out.drew.cells.2.2, HJ.out.drew.md.look hkl _ rfl⟩ (fun hHeld => ?_)
  refine with_tabW doR.tab3 doR.bits3 (fun HT_ HW_ => ?_)
  have HJ3 := Aside0.mk HJ.out.drew
  generalize World.drew _ = w3 at HJ3 hHeld ⊢
  clear HJ hcx hce hlx hle hcm hlm
  have hlx := blk_lt HJ3.out.xb
  have hle := blk_lt HJ3.out.eb
  have hlm := HJ3.out.md.lt
  refine pure_ (i := 4) (N := (some 14)) (v := ?_) (a' := ?_) #[false, false, false, false, true, false, false, false, false] rfl rfl (any_of HT_.out (by kernel_rfl)) (fun _ _ _ h => h) (Or.inl ⟨by rfl, ?_⟩) ?_ ?_
  rotate_left
  · intro w'
    go_simp
    with_reducible rfl
  rotate_left
  · simp only [Act.put, List.setIfInBounds_toArray, List.set_cons_zero, List.set_cons_succ, i64_w, i32_w]
    rfl
  refine take_ (i := 0) (N := (some 10)) (v := ?_) (a' := ?_) #[true, false, false, false, true, false, false, false, false] rfl rfl (take_ofW HT_.out HW_.out (by kernel_rfl)) (fun _ _ _ h => h) (Or.inl ⟨by rfl, ?_⟩) hHeld ?_ ?_
  rotate_left
  · rintro w' ⟨s0, s1, s2, s3⟩
    go_simp
    with_reducible rfl
  rotate_left
  · simp only [Act.put, List.setIfInBounds_toArray, List.set_cons_zero, List.set_cons_succ, i64_w, i32_w]
    rfl
  refine pure_ (i := 1) (N := (some 11)) (v := ?_) (a' := ?_) #[true, true, false, false, true, false, false, false, false] rfl rfl (any_of HT_.out (by kernel_rfl)) (fun _ _ _ h => h) (Or.inl ⟨by rfl, ?_⟩) ?_ ?_
  rotate_left
  · intro w'
    go_simp
    with_reducible rfl
  rotate_left
  · simp only [Act.put, List.setIfInBounds_toArray, List.set_cons_zero, List.set_cons_succ, i64_w, i32_w]
    rfl
  refine pure_ (i := 2) (N := (some 12)) (v := ?_) (a' := ?_) #[true, true, true, false, true, false, false, false, false] rfl rfl (any_of HT_.out (by kernel_rfl)) (fun _ _ _ h => h) (Or.inl ⟨by rfl, ?_⟩) ?_ ?_
  rotate_left
  · intro w'
    go_simp
    with_reducible rfl
  rotate_left
  · simp only [Act.put, List.setIfInBounds_toArray, List.set_cons_zero, List.set_cons_succ, i64_w, i32_w]
    rfl
  refine take_ (i := 3) (N := (some 13)) (v := ?_) (a' := ?_) #[true, true, true, true, true, false, false, false, false] rfl rfl (take_ofW HT_.out HW_.out (by kernel_rfl)) (fun _ _ _ h => h) (Or.inl ⟨by rfl, ?_⟩) hHeld ?_ ?_
  rotate_left
  · rintro w' ⟨s0, s1, s2, s3⟩
    go_simp
    with_reducible rfl
  rotate_left
  · simp only [Act.put, List.setIfInBounds_toArray, List.set_cons_zero, List.set_cons_succ, i64_w, i32_w]
    rfl
  refine take_ (i := 5) (N := (some 15)) (v := ?_) (a' := ?_) #[true, true, true, true, true, true, false, false, false] rfl rfl (take_ofW HT_.out HW_.out (by kernel_rfl)) (fun _ _ _ h => h) (Or.inl ⟨by rfl, ?_⟩) hHeld ?_ ?_
  rotate_left
  · rintro w' ⟨s0, s1, s2, s3⟩
    go_simp
    with_reducible rfl
  rotate_left
  · simp only [Act.put, List.setIfInBounds_toArray, List.set_cons_zero, List.set_cons_succ, i64_w, i32_w]
    rfl
  refine take_ (i := 6) (N := (some 16)) (v := ?_) (a' := ?_) #[true, true, true, true, true, true, true, false, false] rfl rfl (take_ofW HT_.out HW_.out (by kernel_rfl)) (fun _ _ _ h => h) (Or.inl ⟨by rfl, ?_⟩) hHeld ?_ ?_
  rotate_left
  · rintro w' ⟨s0, s1, s2, s3⟩
    go_simp
    with_reducible rfl
  rotate_left
  · simp only [Act.put, List.setIfInBounds_toArray, List.set_cons_zero, List.set_cons_succ, i64_w, i32_w]
    rfl
  refine one_ (i := 7) (N := (some 5)) #[true, true, true, true, true, true, true, true, false] rfl rfl (one_of HT_.out (by kernel_rfl)) (by decide) (fun K hK => ?_)
  refine value_ (by rfl) rfl (v := .pointer (some ⟨w3.heap.size, 0, none⟩)) (w1 := w3.alloc (.cells #[.int .i64 0, .int .i64 0] 122)) (by go_simp <;> rfl) ?_
  refine hK.out _ _ ⟨(HJ3.out.alloc _).cells.1, (HJ3.out.alloc _).cells.2.1, (HJ3.out.alloc _).cells.2.2, (HJ3.out.alloc _).md.look hkl _ rfl⟩ (fun hHeld => ?_)
  clear hK K
  refine norm_ (a' := ?_) ?_ ?_
  rotate_left
  · show Act.put _ (some 5) _ = _
    simp only [Act.put, List.setIfInBounds_toArray, List.set_cons_zero, List.set_cons_succ, i64_w, i32_w]
    rfl
  refine last_ (i := 8) (N := none) #[true, true, true, true, true, true, true, true, true] rfl rfl (one_of HT_.out (by kernel_rfl)) (by decide) (fun K hK => ?_)
  refine skip_ (by rfl) rfl (w1 := w3.alloc (.cells #[.int .i64 (m.st e.h), .int .i64 (m.dl e.h)] 122)) (by go_simp <;> rfl) ?_
  refine hK.out _ _ ?_
  clear hK K
  refine done_ (done_of HT_.out (by kernel_rfl)) ?_
  clear hHeld
  have hcx := fun i => blk_cell (HJ3.out.alloc (.cells #[.int .i64 (m.st e.h), .int .i64 (m.dl e.h)] 122)).xb i
  have hce := fun i => blk_cell (HJ3.out.alloc (.cells #[.int .i64 (m.st e.h), .int .i64 (m.dl e.h)] 122)).eb i
  have hcm := fun i => (HJ3.out.alloc (.cells #[.int .i64 (m.st e.h), .int .i64 (m.dl e.h)] 122)).md.cell i
  have HK := Aside0.mk (show Dk w (w3.alloc (.cells #[.int .i64 (m.st e.h), .int .i64 (m.dl e.h)] 122)) B b n m1 m2 m e w3.heap.size from ⟨HJ3.out.alloc _, blk_new _ _⟩)
  clear hkl
  go_upto_region 9 with (fail)
  refine gen_world' (fun W => Dk w W B b n m1 m2 m e w3.heap.size) (by exact HK.out) fun w4 HK4 => ?_
  obtain ⟨fb, hfb⟩ : ∃ fb, w3.heap.size = fb := ⟨_, rfl⟩
  rw [hfb] at HK4 ⊢
  have HK5 := Aside0.mk HK4.drew
  clear HK hfb HK4 hcx hce hlx hle hcm hlm
  refine start_ (n := 23) (S := (fun w' => (∀ i, w'.cell? ⟨b, i, none⟩ = (mdA m m1 m2)[i]?) ∧ (∀ i, w'.cell? ⟨w.heap.size, i, none⟩ = (#[pA b] : Array Value)[i]?) ∧ (∀ i, w'.cell? ⟨w.heap.size + 1, i, none⟩ = (evA e)[i]?) ∧ (∀ i, w'.cell? ⟨fb, i, none⟩ = (#[.int .i64 (m.st e.h), .int .i64 (m.dl e.h)] : Array Value)[i]?))) (ds := [21]) #[false, false, false, false, false, false, false, false, false, false, false, false, false, false, false, false, false, false, false, false, false, false, false] (by kernel_rfl) rfl rfl HK5.out.cells (fun hHeld => ?_)
  refine with_tabW doR.tab9 doR.bits9 (fun HT_ HW_ => ?_)
  have HK6 := HK5
  generalize w4.drew = w5 at HK5 HK6 hHeld ⊢
  clear HK5
  have hlm := HK6.out.dj.md.lt
  have hlx := blk_lt HK6.out.dj.xb
  have hle := blk_lt HK6.out.dj.eb
  have hlf := blk_lt HK6.out.fb
  refine pure_ (i := 0) (N := (some 36)) (v := ?_) (a' := ?_) #[true, false, false, false, false, false, false, false, false, false, false, false, false, false, false, false, false, false, false, false, false, false, false] rfl rfl (any_of HT_.out (by kernel_rfl)) (fun _ _ _ h => h) (Or.inl ⟨by rfl, ?_⟩) ?_ ?_
  rotate_left
  · intro w'
    go_simp
    with_reducible rfl
  rotate_left
  · simp only [Act.put, List.setIfInBounds_toArray, List.set_cons_zero, List.set_cons_succ, i64_w, i32_w]
    rfl
  refine pure_ (i := 1) (N := (some 37)) (v := ?_) (a' := ?_) #[true, true, false, false, false, false, false, false, false, false, false, false, false, false, false, false, false, false, false, false, false, false, false] rfl rfl (any_of HT_.out (by kernel_rfl)) (fun _ _ _ h => h) (Or.inl ⟨by rfl, ?_⟩) ?_ ?_
  rotate_left
  · intro w'
    go_simp
    with_reducible rfl
  rotate_left
  · simp only [Act.put, List.setIfInBounds_toArray, List.set_cons_zero, List.set_cons_succ, i64_w, i32_w]
    rfl
  refine pure_ (i := 2) (N := (some 38)) (v := ?_) (a' := ?_) #[true, true, true, false, false, false, false, false, false, false, false, false, false, false, false, false, false, false, false, false, false, false, false] rfl rfl (any_of HT_.out (by kernel_rfl)) (fun _ _ _ h => h) (Or.inl ⟨by rfl, ?_⟩) ?_ ?_
  rotate_left
  · intro w'
    go_simp
    with_reducible rfl
  rotate_left
  · simp only [Act.put, List.setIfInBounds_toArray, List.set_cons_zero, List.set_cons_succ, i64_w, i32_w]
    rfl
  refine pure_ (i := 4) (N := (some 40)) (v := ?_) (a' := ?_) #[true, true, true, false, true, false, false, false, false, false, false, false, false, false, false, false, false, false, false, false, false, false, false] rfl rfl (any_of HT_.out (by kernel_rfl)) (fun _ _ _ h => h) (Or.inl ⟨by rfl, ?_⟩) ?_ ?_
  rotate_left
  · intro w'
    go_simp
    with_reducible rfl
  rotate_left
  · simp only [Act.put, List.setIfInBounds_toArray, List.set_cons_zero, List.set_cons_succ, i64_w, i32_w]
    rfl
  refine pure_ (i := 18) (N := (some 54)) (v := ?_) (a' := ?_) #[true, true, true, false, true, false, false, false, false, false, false, false, false, false, false, false, false, false, true, false, false, false, false] rfl rfl (any_of HT_.out (by kernel_rfl)) (fun _ _ _ h => h) (Or.inl ⟨by rfl, ?_⟩) ?_ ?_
  rotate_left
  · intro w'
    go_simp
    with_reducible rfl
  rotate_left
  · simp only [Act.put, List.setIfInBounds_toArray, List.set_cons_zero, List.set_cons_succ, i64_w, i32_w]
    rfl
  refine take_ (i := 3) (N := (some 39)) (v := ?_) (a' := ?_) #[true, true, true, true, true, false, false, false, false, false, false, false, false, false, false, false, false, false, true, false, false, false, false] rfl rfl (take_ofW HT_.out HW_.out (by kernel_rfl)) (fun _ _ _ h => h) (Or.inl ⟨by rfl, ?_⟩) hHeld ?_ ?_
  rotate_left
  · rintro w' ⟨s0, s1, s2, s3⟩
    go_simp
    with_reducible rfl
  rotate_left
  · simp only [Act.put, List.setIfInBounds_toArray, List.set_cons_zero, List.set_cons_succ, i64_w, i32_w]
    rfl
  refine take_ (i := 5) (N := (some 41)) (v := ?_) (a' := ?_) #[true, true, true, true, true, true, false, false, false, false, false, false, false, false, false, false, false, false, true, false, false, false, false] rfl rfl (take_ofW HT_.out HW_.out (by kernel_rfl)) (fun _ _ _ h => h) (Or.inl ⟨by rfl, ?_⟩) hHeld ?_ ?_
  rotate_left
  · rintro w' ⟨s0, s1, s2, s3⟩
    go_simp
    with_reducible rfl
  rotate_left
  · simp only [Act.put, List.setIfInBounds_toArray, List.set_cons_zero, List.set_cons_succ, i64_w, i32_w]
    rfl
  refine pure_ (i := 6) (N := (some 42)) (v := ?_) (a' := ?_) #[true, true, true, true, true, true, true, false, false, false, false, false, false, false, false, false, false, false, true, false, false, false, false] rfl rfl (any_of HT_.out (by kernel_rfl)) (fun _ _ _ h => h) (Or.inl ⟨by rfl, ?_⟩) ?_ ?_
  rotate_left
  · intro w'
    go_simp
    with_reducible rfl
  rotate_left
  · simp only [Act.put, List.setIfInBounds_toArray, List.set_cons_zero, List.set_cons_succ, i64_w, i32_w]
    rfl
  refine pure_ (i := 7) (N := (some 43)) (v := ?_) (a' := ?_) #[true, true, true, true, true, true, true, true, false, false, false, false, false, false, false, false, false, false, true, false, false, false, false] rfl rfl (any_of HT_.out (by kernel_rfl)) (fun _ _ _ h => h) (Or.inl ⟨by rfl, ?_⟩) ?_ ?_
  rotate_left
  · intro w'
    go_simp
    with_reducible rfl
  rotate_left
  · simp only [Act.put, List.setIfInBounds_toArray, List.set_cons_zero, List.set_cons_succ, i64_w, i32_w]
    rfl
  refine pure_ (i := 8) (N := (some 44)) (v := ?_) (a' := ?_) #[true, true, true, true, true, true, true, true, true, false, false, false, false, false, false, false, false, false, true, false, false, false, false] rfl rfl (any_of HT_.out (by kernel_rfl)) (fun _ _ _ h => h) (Or.inl ⟨by rfl, ?_⟩) ?_ ?_
  rotate_left
  · intro w'
    go_simp
    with_reducible rfl
  rotate_left
  · simp only [Act.put, List.setIfInBounds_toArray, List.set_cons_zero, List.set_cons_succ, i64_w, i32_w]
    rfl
  refine pure_ (i := 9) (N := (some 45)) (v := undef) (a' := ?_) #[true, true, true, true, true, true, true, true, true, true, false, false, false, false, false, false, false, false, true, false, false, false, false] rfl rfl (any_of HT_.out (by kernel_rfl)) (fun _ _ _ h => h) (Or.inr ⟨by rfl, rfl⟩) ?_ ?_
  rotate_left
  · simp only [Act.put, List.setIfInBounds_toArray, List.set_cons_zero, List.set_cons_succ, i64_w, i32_w]
    rfl
  refine pure_ (i := 10) (N := (some 46)) (v := undef) (a' := ?_) #[true, true, true, true, true, true, true, true, true, true, true, false, false, false, false, false, false, false, true, false, false, false, false] rfl rfl (any_of HT_.out (by kernel_rfl)) (fun _ _ _ h => h) (Or.inr ⟨by rfl, rfl⟩) ?_ ?_
  rotate_left
  · simp only [Act.put, List.setIfInBounds_toArray, List.set_cons_zero, List.set_cons_succ, i64_w, i32_w]
    rfl
  refine pure_ (i := 11) (N := (some 47)) (v := undef) (a' := ?_) #[true, true, true, true, true, true, true, true, true, true, true, true, false, false, false, false, false, false, true, false, false, false, false] rfl rfl (any_of HT_.out (by kernel_rfl)) (fun _ _ _ h => h) (Or.inr ⟨by rfl, rfl⟩) ?_ ?_
  rotate_left
  · simp only [Act.put, List.setIfInBounds_toArray, List.set_cons_zero, List.set_cons_succ, i64_w, i32_w]
    rfl
  refine pure_ (i := 12) (N := (some 48)) (v := undef) (a' := ?_) #[true, true, true, true, true, true, true, true, true, true, true, true, true, false, false, false, false, false, true, false, false, false, false] rfl rfl (any_of HT_.out (by kernel_rfl)) (fun _ _ _ h => h) (Or.inr ⟨by rfl, rfl⟩) ?_ ?_
  rotate_left
  · simp only [Act.put, List.setIfInBounds_toArray, List.set_cons_zero, List.set_cons_succ, i64_w, i32_w]
    rfl
  refine pure_ (i := 13) (N := (some 49)) (v := undef) (a' := ?_) #[true, true, true, true, true, true, true, true, true, true, true, true, true, true, false, false, false, false, true, false, false, false, false] rfl rfl (any_of HT_.out (by kernel_rfl)) (fun _ _ _ h => h) (Or.inr ⟨by rfl, rfl⟩) ?_ ?_
  rotate_left
  · simp only [Act.put, List.setIfInBounds_toArray, List.set_cons_zero, List.set_cons_succ, i64_w, i32_w]
    rfl
  refine pure_ (i := 14) (N := (some 50)) (v := undef) (a' := ?_) #[true, true, true, true, true, true, true, true, true, true, true, true, true, true, true, false, false, false, true, false, false, false, false] rfl rfl (any_of HT_.out (by kernel_rfl)) (fun _ _ _ h => h) (Or.inr ⟨by rfl, rfl⟩) ?_ ?_
  rotate_left
  · simp only [Act.put, List.setIfInBounds_toArray, List.set_cons_zero, List.set_cons_succ, i64_w, i32_w]
    rfl
  refine pure_ (i := 15) (N := (some 51)) (v := undef) (a' := ?_) #[true, true, true, true, true, true, true, true, true, true, true, true, true, true, true, true, false, false, true, false, false, false, false] rfl rfl (any_of HT_.out (by kernel_rfl)) (fun _ _ _ h => h) (Or.inr ⟨by rfl, rfl⟩) ?_ ?_
  rotate_left
  · simp only [Act.put, List.setIfInBounds_toArray, List.set_cons_zero, List.set_cons_succ, i64_w, i32_w]
    rfl
  refine pure_ (i := 16) (N := (some 52)) (v := ?_) (a' := ?_) #[true, true, true, true, true, true, true, true, true, true, true, true, true, true, true, true, true, false, true, false, false, false, false] rfl rfl (any_of HT_.out (by kernel_rfl)) (fun _ _ _ h => h) (Or.inl ⟨by rfl, ?_⟩) ?_ ?_
  rotate_left
  · intro w'
    go_simp
    with_reducible rfl
  rotate_left
  · simp only [Act.put, List.setIfInBounds_toArray, List.set_cons_zero, List.set_cons_succ, i64_w, i32_w]
    rfl
  refine take_ (i := 17) (N := (some 53)) (v := ?_) (a' := ?_) #[true, true, true, true, true, true, true, true, true, true, true, true, true, true, true, true, true, true, true, false, false, false, false] rfl rfl (take_ofW HT_.out HW_.out (by kernel_rfl)) (fun _ _ _ h => h) (Or.inl ⟨by rfl, ?_⟩) hHeld ?_ ?_
  rotate_left
  · rintro w' ⟨s0, s1, s2, s3⟩
    go_simp
    with_reducible rfl
  rotate_left
  · simp only [Act.put, List.setIfInBounds_toArray, List.set_cons_zero, List.set_cons_succ, i64_w, i32_w]
    rfl
  refine take_ (i := 19) (N := (some 55)) (v := ?_) (a' := ?_) #[true, true, true, true, true, true, true, true, true, true, true, true, true, true, true, true, true, true, true, true, false, false, false] rfl rfl (take_ofW HT_.out HW_.out (by kernel_rfl)) (fun _ _ _ h => h) (Or.inl ⟨by rfl, ?_⟩) hHeld ?_ ?_
  rotate_left
  · rintro w' ⟨s0, s1, s2, s3⟩
    go_simp
    with_reducible rfl
  rotate_left
  · simp only [Act.put, List.setIfInBounds_toArray, List.set_cons_zero, List.set_cons_succ, i64_w, i32_w]
    rfl
  refine one_ (i := 20) (N := (some 56)) #[true, true, true, true, true, true, true, true, true, true, true, true, true, true, true, true, true, true, true, true, true, false, false] rfl rfl (one_of HT_.out (by kernel_rfl)) (by decide) (fun K hK => ?_)
  refine call_ (f := 75) #[pA b, .agg #[.int .i64 e.hn, .int .i64 e.hg], .int .i64 2] (by rfl) rfl (by go_simp <;> rfl) ?_
  refine (end_new b e.hn e.hg 2 w5).mono ?_
  rintro r w6 ⟨sb, xb, hb, rfl, h3, hb2⟩
  refine ⟨_, rfl, ?_⟩
  have HE := Aside0.mk (And.intro h3 (HK6.out.step hb2))
  clear h3 hb2
  refine hK.out _ _ HE.out.2.cells (fun hHeld => ?_)
  clear hK K
  refine norm_ (a' := ?_) ?_ ?_
  rotate_left
  · show Act.put _ (some 56) _ = _
    simp only [Act.put, List.setIfInBounds_toArray, List.set_cons_zero, List.set_cons_succ, i64_w, i32_w]
    rfl
  refine last_ (i := 21) (N := (some 57)) #[true, true, true, true, true, true, true, true, true, true, true, true, true, true, true, true, true, true, true, true, true, true, false] rfl rfl (one_of HT_.out (by kernel_rfl)) (by decide) (fun K hK => ?_)
  refine call_ (f := 73) #[.bool false, .func (.func 99) #[] #[pA sb, pA xb, pA hb]] (by rfl) rfl (by first | (go_simp <;> rfl) | (simp only [HTC.out]; go_simp <;> rfl)) ?_
  refine (un_end false 2 e.hn e.hg (by have := HN.out; omega) HW.out.1 HW.out.2.1 HE.out.2.dj.md HE.out.1).mono ?_
  rintro r w7 ⟨rfl, hm, hf⟩
  refine ⟨_, rfl, ?_⟩
  have HM := Aside0.mk (And.intro hm (HE.out.2.dj.fr.trans hf))
  clear hm hf
  refine hK.out _ _ ?_
  clear hK K
  refine norm_ (a' := ?_) ?_ ?_
  rotate_left
  · show Act.put _ (some 57) _ = _
    simp only [Act.put, List.setIfInBounds_toArray, List.set_cons_zero, List.set_cons_succ, i64_w, i32_w]
    rfl
  refine pure_ (i := 22) (N := (some 4)) (v := ?_) (a' := ?_) #[true, true, true, true, true, true, true, true, true, true, true, true, true, true, true, true, true, true, true, true, true, true, true] rfl rfl (any_of HT_.out (by kernel_rfl)) (fun _ _ _ h => h) (Or.inl ⟨by rfl, ?_⟩) ?_ ?_
  rotate_left
  · intro w'
    go_simp
    with_reducible rfl
  rotate_left
  · simp only [Act.put, List.setIfInBounds_toArray, List.set_cons_zero, List.set_cons_succ, i64_w, i32_w]
    rfl
  refine done_ (done_of HT_.out (by kernel_rfl)) ?_
  go_wp2
  go_ret
  exact DoPost.of HF.out rfl HM.out.1 HM.out.2
set_option maxHeartbeats 4000000 in
set_option maxRecDepth 100000 in
theorem do_fire {w : World} {B b n m1 m2 : Nat} {m : Md} (e : Ev) (hw : (Lit.int .i64 e.hn).wf = true ∧ (Lit.int .i64 e.hg).wf = true ∧ (Lit.int .i64 e.nn).wf = true ∧ (Lit.int .i64 e.ng).wf = true) (hn : n + 1 ≤ 1000000) (hwl : ∀ x, (Lit.int .i64 ((m.lst x).getD 0)).wf = true) (h : MdIs w B b n m m1 m2) (hr : rightJ e = true) (hk : e.k = 4) (ha : m.st e.h = 1) (hd : m.dl e.h ≤ e.t) :
    Calls Try.prog 43 #[pA b, .agg (evA e)] w (DoPost w B b n m1 m2 (doF m e)) := by
  have hu0 := Try.underlying125
  have hu1 := Try.underlying34
  have hu2 := Try.underlying54
  have hu3 := Try.underlying122
  have hmf : ∀ (fn : Fn) (first cap : Array Value) (w : World), (Instr.makeFunc fn first cap).run Try.prog w = .ok (.func fn first cap) w := fun _ _ _ _ => rfl
  have HF := Aside0.mk (show doF m e = unF (decide (e.t ≤ m.clk)) (m.end_ e.h 2) m by unfold doF; rw [if_neg (by rw [hr]; simp), if_neg (by omega), if_pos hk]; unfold unF; by_cases ht : e.t ≤ m.clk <;> simp [ha, hd, ht])
  have k1 : (e.k == 1) = false := beq_eq_false_iff_ne.2 (by omega)
  have k4 : (e.k == 4) = true := beq_iff_eq.2 (hk)
  have k3 : (e.k == 3) = false := beq_eq_false_iff_ne.2 (by omega)
  have a1 : ((m.st e.h) == 1) = true := beq_iff_eq.2 (ha)
  have d1 : decide (m.dl e.h ≤ e.t) = true := decide_eq_true hd
  have CR := Aside0.mk (fun W => right_run e W)
  rw [hr] at CR
  have HW := Aside0.mk hw
  have HN := Aside0.mk hn
  have HWL := Aside0.mk hwl
  have HJ := Aside0.mk (Dj.start h e)
  clear hw hn hwl h hr hk ha hd
  have hcx := fun i => blk_cell HJ.out.xb i
  have hce := fun i => blk_cell HJ.out.eb i
  have hlx := blk_lt HJ.out.xb
  have hle := blk_lt HJ.out.eb
  have hcm := fun i => HJ.out.md.cell i
  have hlm := HJ.out.md.lt
  go_enter Try.func43, Try.ntmps43
  go_wp2_with (first | (go_at_call 65; (with_reducible refine (CR.out _).mono ?_); rintro r w2 ⟨rfl, hb2⟩; have HJ2 := Aside0.mk (HJ.out.step hb2); clear hb2 hcx hce hlx hle hcm hlm; have HJ := HJ2; have hcx := fun i => blk_cell HJ.out.xb i; have hce := fun i => blk_cell HJ.out.eb i; have hlx := blk_lt HJ.out.xb; have hle := blk_lt HJ.out.eb; have hcm := fun i => HJ.out.md.cell i; have hlm := HJ.out.md.lt))
  obtain ⟨kl, hkl⟩ := keyH e.hn e.hg HW.out.1 HW.out.2.1
  refine start_ (n := 9) (S := (fun w' => (∀ i, w'.cell? ⟨b, i, none⟩ = (mdA m m1 m2)[i]?) ∧ (∀ i, w'.cell? ⟨w.heap.size, i, none⟩ = (#[pA b] : Array Value)[i]?) ∧ (∀ i, w'.cell? ⟨w.heap.size + 1, i, none⟩ = (evA e)[i]?) ∧ (Instr.lookup 123 (.map (some m1)) (haV e.h) false).run Try.prog w' = .ok (.agg #[.int .i64 (m.st e.h), .int .i64 (m.dl e.h)]) w')) (ds := [8]) #[false, false, false, false, false, false, false, false, false] (by kernel_rfl) rfl rfl ⟨HJ.out.drew.cells.1, HJ.out.drew.cells.2.1, HJ.out.drew.cells.2.2, HJ.out.drew.md.look hkl _ rfl⟩ (fun hHeld => ?_)
  refine with_tabW doR.tab3 doR.bits3 (fun HT_ HW_ => ?_)
  have HJ3 := Aside0.mk HJ.out.drew
  generalize World.drew _ = w3 at HJ3 hHeld ⊢
  clear HJ hcx hce hlx hle hcm hlm
  have hlx := blk_lt HJ3.out.xb
  have hle := blk_lt HJ3.out.eb
  have hlm := HJ3.out.md.lt
  refine pure_ (i := 4) (N := (some 14)) (v := ?_) (a' := ?_) #[false, false, false, false, true, false, false, false, false] rfl rfl (any_of HT_.out (by kernel_rfl)) (fun _ _ _ h => h) (Or.inl ⟨by rfl, ?_⟩) ?_ ?_
  rotate_left
  · intro w'
    go_simp
    with_reducible rfl
  rotate_left
  · simp only [Act.put, List.setIfInBounds_toArray, List.set_cons_zero, List.set_cons_succ, i64_w, i32_w]
    rfl
  refine take_ (i := 0) (N := (some 10)) (v := ?_) (a' := ?_) #[true, false, false, false, true, false, false, false, false] rfl rfl (take_ofW HT_.out HW_.out (by kernel_rfl)) (fun _ _ _ h => h) (Or.inl ⟨by rfl, ?_⟩) hHeld ?_ ?_
  rotate_left
  · rintro w' ⟨s0, s1, s2, s3⟩
    go_simp
    with_reducible rfl
  rotate_left
  · simp only [Act.put, List.setIfInBounds_toArray, List.set_cons_zero, List.set_cons_succ, i64_w, i32_w]
    rfl
  refine pure_ (i := 1) (N := (some 11)) (v := ?_) (a' := ?_) #[true, true, false, false, true, false, false, false, false] rfl rfl (any_of HT_.out (by kernel_rfl)) (fun _ _ _ h => h) (Or.inl ⟨by rfl, ?_⟩) ?_ ?_
  rotate_left
  · intro w'
    go_simp
    with_reducible rfl
  rotate_left
  · simp only [Act.put, List.setIfInBounds_toArray, List.set_cons_zero, List.set_cons_succ, i64_w, i32_w]
    rfl
  refine pure_ (i := 2) (N := (some 12)) (v := ?_) (a' := ?_) #[true, true, true, false, true, false, false, false, false] rfl rfl (any_of HT_.out (by kernel_rfl)) (fun _ _ _ h => h) (Or.inl ⟨by rfl, ?_⟩) ?_ ?_
  rotate_left
  · intro w'
    go_simp
    with_reducible rfl
  rotate_left
  · simp only [Act.put, List.setIfInBounds_toArray, List.set_cons_zero, List.set_cons_succ, i64_w, i32_w]
    rfl
  refine take_ (i := 3) (N := (some 13)) (v := ?_) (a' := ?_) #[true, true, true, true, true, false, false, false, false] rfl rfl (take_ofW HT_.out HW_.out (by kernel_rfl)) (fun _ _ _ h => h) (Or.inl ⟨by rfl, ?_⟩) hHeld ?_ ?_
  rotate_left
  · rintro w' ⟨s0, s1, s2, s3⟩
    go_simp
    with_reducible rfl
  rotate_left
  · simp only [Act.put, List.setIfInBounds_toArray, List.set_cons_zero, List.set_cons_succ, i64_w, i32_w]
    rfl
  refine take_ (i := 5) (N := (some 15)) (v := ?_) (a' := ?_) #[true, true, true, true, true, true, false, false, false] rfl rfl (take_ofW HT_.out HW_.out (by kernel_rfl)) (fun _ _ _ h => h) (Or.inl ⟨by rfl, ?_⟩) hHeld ?_ ?_
  rotate_left
  · rintro w' ⟨s0, s1, s2, s3⟩
    go_simp
    with_reducible rfl
  rotate_left
  · simp only [Act.put, List.setIfInBounds_toArray, List.set_cons_zero, List.set_cons_succ, i64_w, i32_w]
    rfl
  refine take_ (i := 6) (N := (some 16)) (v := ?_) (a' := ?_) #[true, true, true, true, true, true, true, false, false] rfl rfl (take_ofW HT_.out HW_.out (by kernel_rfl)) (fun _ _ _ h => h) (Or.inl ⟨by rfl, ?_⟩) hHeld ?_ ?_
  rotate_left
  · rintro w' ⟨s0, s1, s2, s3⟩
    go_simp
    with_reducible rfl
  rotate_left
  · simp only [Act.put, List.setIfInBounds_toArray, List.set_cons_zero, List.set_cons_succ, i64_w, i32_w]
    rfl
  refine one_ (i := 7) (N := (some 5)) #[true, true, true, true, true, true, true, true, false] rfl rfl (one_of HT_.out (by kernel_rfl)) (by decide) (fun K hK => ?_)
  refine value_ (by rfl) rfl (v := .pointer (some ⟨w3.heap.size, 0, none⟩)) (w1 := w3.alloc (.cells #[.int .i64 0, .int .i64 0] 122)) (by go_simp <;> rfl) ?_
  refine hK.out _ _ ⟨(HJ3.out.alloc _).cells.1, (HJ3.out.alloc _).cells.2.1, (HJ3.out.alloc _).cells.2.2, (HJ3.out.alloc _).md.look hkl _ rfl⟩ (fun hHeld => ?_)
  clear hK K
  refine norm_ (a' := ?_) ?_ ?_
  rotate_left
  · show Act.put _ (some 5) _ = _
    simp only [Act.put, List.setIfInBounds_toArray, List.set_cons_zero, List.set_cons_succ, i64_w, i32_w]
    rfl
  refine last_ (i := 8) (N := none) #[true, true, true, true, true, true, true, true, true] rfl rfl (one_of HT_.out (by kernel_rfl)) (by decide) (fun K hK => ?_)
  refine skip_ (by rfl) rfl (w1 := w3.alloc (.cells #[.int .i64 (m.st e.h), .int .i64 (m.dl e.h)] 122)) (by go_simp <;> rfl) ?_
  refine hK.out _ _ ?_
  clear hK K
  refine done_ (done_of HT_.out (by kernel_rfl)) ?_
  clear hHeld
  have hcx := fun i => blk_cell (HJ3.out.alloc (.cells #[.int .i64 (m.st e.h), .int .i64 (m.dl e.h)] 122)).xb i
  have hce := fun i => blk_cell (HJ3.out.alloc (.cells #[.int .i64 (m.st e.h), .int .i64 (m.dl e.h)] 122)).eb i
  have hcm := fun i => (HJ3.out.alloc (.cells #[.int .i64 (m.st e.h), .int .i64 (m.dl e.h)] 122)).md.cell i
  have HK := Aside0.mk (show Dk w (w3.alloc (.cells #[.int .i64 (m.st e.h), .int .i64 (m.dl e.h)] 122)) B b n m1 m2 m e w3.heap.size from ⟨HJ3.out.alloc _, blk_new _ _⟩)
  clear hkl
  go_upto_region 9 with (fail)
  refine gen_world' (fun W => Dk w W B b n m1 m2 m e w3.heap.size) (by exact HK.out) fun w4 HK4 => ?_
  obtain ⟨fb, hfb⟩ : ∃ fb, w3.heap.size = fb := ⟨_, rfl⟩
  rw [hfb] at HK4 ⊢
  have HK5 := Aside0.mk HK4.drew
  clear HK hfb HK4 hcx hce hlx hle hcm hlm
  refine start_ (n := 23) (S := (fun w' => (∀ i, w'.cell? ⟨b, i, none⟩ = (mdA m m1 m2)[i]?) ∧ (∀ i, w'.cell? ⟨w.heap.size, i, none⟩ = (#[pA b] : Array Value)[i]?) ∧ (∀ i, w'.cell? ⟨w.heap.size + 1, i, none⟩ = (evA e)[i]?) ∧ (∀ i, w'.cell? ⟨fb, i, none⟩ = (#[.int .i64 (m.st e.h), .int .i64 (m.dl e.h)] : Array Value)[i]?))) (ds := [21]) #[false, false, false, false, false, false, false, false, false, false, false, false, false, false, false, false, false, false, false, false, false, false, false] (by kernel_rfl) rfl rfl HK5.out.cells (fun hHeld => ?_)
  refine with_tabW doR.tab9 doR.bits9 (fun HT_ HW_ => ?_)
  have HK6 := HK5
  generalize w4.drew = w5 at HK5 HK6 hHeld ⊢
  clear HK5
  have hlm := HK6.out.dj.md.lt
  have hlx := blk_lt HK6.out.dj.xb
  have hle := blk_lt HK6.out.dj.eb
  have hlf := blk_lt HK6.out.fb
  refine pure_ (i := 0) (N := (some 36)) (v := ?_) (a' := ?_) #[true, false, false, false, false, false, false, false, false, false, false, false, false, false, false, false, false, false, false, false, false, false, false] rfl rfl (any_of HT_.out (by kernel_rfl)) (fun _ _ _ h => h) (Or.inl ⟨by rfl, ?_⟩) ?_ ?_
  rotate_left
  · intro w'
    go_simp
    with_reducible rfl
  rotate_left
  · simp only [Act.put, List.setIfInBounds_toArray, List.set_cons_zero, List.set_cons_succ, i64_w, i32_w]
    rfl
  refine pure_ (i := 1) (N := (some 37)) (v := ?_) (a' := ?_) #[true, true, false, false, false, false, false, false, false, false, false, false, false, false, false, false, false, false, false, false, false, false, false] rfl rfl (any_of HT_.out (by kernel_rfl)) (fun _ _ _ h => h) (Or.inl ⟨by rfl, ?_⟩) ?_ ?_
  rotate_left
  · intro w'
    go_simp
    with_reducible rfl
  rotate_left
  · simp only [Act.put, List.setIfInBounds_toArray, List.set_cons_zero, List.set_cons_succ, i64_w, i32_w]
    rfl
  refine pure_ (i := 2) (N := (some 38)) (v := ?_) (a' := ?_) #[true, true, true, false, false, false, false, false, false, false, false, false, false, false, false, false, false, false, false, false, false, false, false] rfl rfl (any_of HT_.out (by kernel_rfl)) (fun _ _ _ h => h) (Or.inl ⟨by rfl, ?_⟩) ?_ ?_
  rotate_left
  · intro w'
    go_simp
    with_reducible rfl
  rotate_left
  · simp only [Act.put, List.setIfInBounds_toArray, List.set_cons_zero, List.set_cons_succ, i64_w, i32_w]
    rfl
  refine pure_ (i := 4) (N := (some 40)) (v := ?_) (a' := ?_) #[true, true, true, false, true, false, false, false, false, false, false, false, false, false, false, false, false, false, false, false, false, false, false] rfl rfl (any_of HT_.out (by kernel_rfl)) (fun _ _ _ h => h) (Or.inl ⟨by rfl, ?_⟩) ?_ ?_
  rotate_left
  · intro w'
    go_simp
    with_reducible rfl
  rotate_left
  · simp only [Act.put, List.setIfInBounds_toArray, List.set_cons_zero, List.set_cons_succ, i64_w, i32_w]
    rfl
  refine pure_ (i := 18) (N := (some 54)) (v := ?_) (a' := ?_) #[true, true, true, false, true, false, false, false, false, false, false, false, false, false, false, false, false, false, true, false, false, false, false] rfl rfl (any_of HT_.out (by kernel_rfl)) (fun _ _ _ h => h) (Or.inl ⟨by rfl, ?_⟩) ?_ ?_
  rotate_left
  · intro w'
    go_simp
    with_reducible rfl
  rotate_left
  · simp only [Act.put, List.setIfInBounds_toArray, List.set_cons_zero, List.set_cons_succ, i64_w, i32_w]
    rfl
  refine take_ (i := 3) (N := (some 39)) (v := ?_) (a' := ?_) #[true, true, true, true, true, false, false, false, false, false, false, false, false, false, false, false, false, false, true, false, false, false, false] rfl rfl (take_ofW HT_.out HW_.out (by kernel_rfl)) (fun _ _ _ h => h) (Or.inl ⟨by rfl, ?_⟩) hHeld ?_ ?_
  rotate_left
  · rintro w' ⟨s0, s1, s2, s3⟩
    go_simp
    with_reducible rfl
  rotate_left
  · simp only [Act.put, List.setIfInBounds_toArray, List.set_cons_zero, List.set_cons_succ, i64_w, i32_w]
    rfl
  refine take_ (i := 5) (N := (some 41)) (v := ?_) (a' := ?_) #[true, true, true, true, true, true, false, false, false, false, false, false, false, false, false, false, false, false, true, false, false, false, false] rfl rfl (take_ofW HT_.out HW_.out (by kernel_rfl)) (fun _ _ _ h => h) (Or.inl ⟨by rfl, ?_⟩) hHeld ?_ ?_
  rotate_left
  · rintro w' ⟨s0, s1, s2, s3⟩
    go_simp
    with_reducible rfl
  rotate_left
  · simp only [Act.put, List.setIfInBounds_toArray, List.set_cons_zero, List.set_cons_succ, i64_w, i32_w]
    rfl
  refine pure_ (i := 6) (N := (some 42)) (v := ?_) (a' := ?_) #[true, true, true, true, true, true, true, false, false, false, false, false, false, false, false, false, false, false, true, false, false, false, false] rfl rfl (any_of HT_.out (by kernel_rfl)) (fun _ _ _ h => h) (Or.inl ⟨by rfl, ?_⟩) ?_ ?_
  rotate_left
  · intro w'
    go_simp
    with_reducible rfl
  rotate_left
  · simp only [Act.put, List.setIfInBounds_toArray, List.set_cons_zero, List.set_cons_succ, i64_w, i32_w]
    rfl
  refine pure_ (i := 7) (N := (some 43)) (v := ?_) (a' := ?_) #[true, true, true, true, true, true, true, true, false, false, false, false, false, false, false, false, false, false, true, false, false, false, false] rfl rfl (any_of HT_.out (by kernel_rfl)) (fun _ _ _ h => h) (Or.inl ⟨by rfl, ?_⟩) ?_ ?_
  rotate_left
  · intro w'
    go_simp
    with_reducible rfl
  rotate_left
  · simp only [Act.put, List.setIfInBounds_toArray, List.set_cons_zero, List.set_cons_succ, i64_w, i32_w]
    rfl
  refine pure_ (i := 8) (N := (some 44)) (v := ?_) (a' := ?_) #[true, true, true, true, true, true, true, true, true, false, false, false, false, false, false, false, false, false, true, false, false, false, false] rfl rfl (any_of HT_.out (by kernel_rfl)) (fun _ _ _ h => h) (Or.inl ⟨by rfl, ?_⟩) ?_ ?_
  rotate_left
  · intro w'
    go_simp
    with_reducible rfl
  rotate_left
  · simp only [Act.put, List.setIfInBounds_toArray, List.set_cons_zero, List.set_cons_succ, i64_w, i32_w]
    rfl
  refine pure_ (i := 9) (N := (some 45)) (v := ?_) (a' := ?_) #[true, true, true, true, true, true, true, true, true, true, false, false, false, false, false, false, false, false, true, false, false, false, false] rfl rfl (any_of HT_.out (by kernel_rfl)) (fun _ _ _ h => h) (Or.inl ⟨by rfl, ?_⟩) ?_ ?_
  rotate_left
  · intro w'
    go_simp
    with_reducible rfl
  rotate_left
  · simp only [Act.put, List.setIfInBounds_toArray, List.set_cons_zero, List.set_cons_succ, i64_w, i32_w]
    rfl
  refine take_ (i := 10) (N := (some 46)) (v := ?_) (a' := ?_) #[true, true, true, true, true, true, true, true, true, true, true, false, false, false, false, false, false, false, true, false, false, false, false] rfl rfl (take_ofW HT_.out HW_.out (by kernel_rfl)) (fun _ _ _ h => h) (Or.inl ⟨by rfl, ?_⟩) hHeld ?_ ?_
  rotate_left
  · rintro w' ⟨s0, s1, s2, s3⟩
    go_simp
    with_reducible rfl
  rotate_left
  · simp only [Act.put, List.setIfInBounds_toArray, List.set_cons_zero, List.set_cons_succ, i64_w, i32_w]
    rfl
  refine take_ (i := 11) (N := (some 47)) (v := ?_) (a' := ?_) #[true, true, true, true, true, true, true, true, true, true, true, true, false, false, false, false, false, false, true, false, false, false, false] rfl rfl (take_ofW HT_.out HW_.out (by kernel_rfl)) (fun _ _ _ h => h) (Or.inl ⟨by rfl, ?_⟩) hHeld ?_ ?_
  rotate_left
  · rintro w' ⟨s0, s1, s2, s3⟩
    go_simp
    with_reducible rfl
  rotate_left
  · simp only [Act.put, List.setIfInBounds_toArray, List.set_cons_zero, List.set_cons_succ, i64_w, i32_w]
    rfl
  refine pure_ (i := 12) (N := (some 48)) (v := ?_) (a' := ?_) #[true, true, true, true, true, true, true, true, true, true, true, true, true, false, false, false, false, false, true, false, false, false, false] rfl rfl (any_of HT_.out (by kernel_rfl)) (fun _ _ _ h => h) (Or.inl ⟨by rfl, ?_⟩) ?_ ?_
  rotate_left
  · intro w'
    go_simp
    with_reducible rfl
  rotate_left
  · simp only [Act.put, List.setIfInBounds_toArray, List.set_cons_zero, List.set_cons_succ, i64_w, i32_w]
    rfl
  refine pure_ (i := 13) (N := (some 49)) (v := ?_) (a' := ?_) #[true, true, true, true, true, true, true, true, true, true, true, true, true, true, false, false, false, false, true, false, false, false, false] rfl rfl (any_of HT_.out (by kernel_rfl)) (fun _ _ _ h => h) (Or.inl ⟨by rfl, ?_⟩) ?_ ?_
  rotate_left
  · intro w'
    go_simp
    with_reducible rfl
  rotate_left
  · simp only [Act.put, List.setIfInBounds_toArray, List.set_cons_zero, List.set_cons_succ, i64_w, i32_w]
    rfl
  refine take_ (i := 14) (N := (some 50)) (v := ?_) (a' := ?_) #[true, true, true, true, true, true, true, true, true, true, true, true, true, true, true, false, false, false, true, false, false, false, false] rfl rfl (take_ofW HT_.out HW_.out (by kernel_rfl)) (fun _ _ _ h => h) (Or.inl ⟨by rfl, ?_⟩) hHeld ?_ ?_
  rotate_left
  · rintro w' ⟨s0, s1, s2, s3⟩
    go_simp
    with_reducible rfl
  rotate_left
  · simp only [Act.put, List.setIfInBounds_toArray, List.set_cons_zero, List.set_cons_succ, i64_w, i32_w]
    rfl
  refine pure_ (i := 15) (N := (some 51)) (v := ?_) (a' := ?_) #[true, true, true, true, true, true, true, true, true, true, true, true, true, true, true, true, false, false, true, false, false, false, false] rfl rfl (any_of HT_.out (by kernel_rfl)) (fun _ _ _ h => h) (Or.inl ⟨by rfl, ?_⟩) ?_ ?_
  rotate_left
  · intro w'
    go_simp
    with_reducible rfl
  rotate_left
  · simp only [Act.put, List.setIfInBounds_toArray, List.set_cons_zero, List.set_cons_succ, i64_w, i32_w]
    rfl
  refine pure_ (i := 16) (N := (some 52)) (v := ?_) (a' := ?_) #[true, true, true, true, true, true, true, true, true, true, true, true, true, true, true, true, true, false, true, false, false, false, false] rfl rfl (any_of HT_.out (by kernel_rfl)) (fun _ _ _ h => h) (Or.inl ⟨by rfl, ?_⟩) ?_ ?_
  rotate_left
  · intro w'
    go_simp
    with_reducible rfl
  rotate_left
  · simp only [Act.put, List.setIfInBounds_toArray, List.set_cons_zero, List.set_cons_succ, i64_w, i32_w]
    rfl
  refine take_ (i := 17) (N := (some 53)) (v := ?_) (a' := ?_) #[true, true, true, true, true, true, true, true, true, true, true, true, true, true, true, true, true, true, true, false, false, false, false] rfl rfl (take_ofW HT_.out HW_.out (by kernel_rfl)) (fun _ _ _ h => h) (Or.inl ⟨by rfl, ?_⟩) hHeld ?_ ?_
  rotate_left
  · rintro w' ⟨s0, s1, s2, s3⟩
    go_simp
    with_reducible rfl
  rotate_left
  · simp only [Act.put, List.setIfInBounds_toArray, List.set_cons_zero, List.set_cons_succ, i64_w, i32_w]
    rfl
  refine take_ (i := 19) (N := (some 55)) (v := ?_) (a' := ?_) #[true, true, true, true, true, true, true, true, true, true, true, true, true, true, true, true, true, true, true, true, false, false, false] rfl rfl (take_ofW HT_.out HW_.out (by kernel_rfl)) (fun _ _ _ h => h) (Or.inl ⟨by rfl, ?_⟩) hHeld ?_ ?_
  rotate_left
  · rintro w' ⟨s0, s1, s2, s3⟩
    go_simp
    with_reducible rfl
  rotate_left
  · simp only [Act.put, List.setIfInBounds_toArray, List.set_cons_zero, List.set_cons_succ, i64_w, i32_w]
    rfl
  refine one_ (i := 20) (N := (some 56)) #[true, true, true, true, true, true, true, true, true, true, true, true, true, true, true, true, true, true, true, true, true, false, false] rfl rfl (one_of HT_.out (by kernel_rfl)) (by decide) (fun K hK => ?_)
  refine call_ (f := 75) #[pA b, .agg #[.int .i64 e.hn, .int .i64 e.hg], .int .i64 2] (by rfl) rfl (by go_simp <;> rfl) ?_
  refine (end_new b e.hn e.hg 2 w5).mono ?_
  rintro r w6 ⟨sb, xb, hb, rfl, h3, hb2⟩
  refine ⟨_, rfl, ?_⟩
  have HE := Aside0.mk (And.intro h3 (HK6.out.step hb2))
  clear h3 hb2
  refine hK.out _ _ HE.out.2.cells (fun hHeld => ?_)
  clear hK K
  refine norm_ (a' := ?_) ?_ ?_
  rotate_left
  · show Act.put _ (some 56) _ = _
    simp only [Act.put, List.setIfInBounds_toArray, List.set_cons_zero, List.set_cons_succ, i64_w, i32_w]
    rfl
  refine last_ (i := 21) (N := (some 57)) #[true, true, true, true, true, true, true, true, true, true, true, true, true, true, true, true, true, true, true, true, true, true, false] rfl rfl (one_of HT_.out (by kernel_rfl)) (by decide) (fun K hK => ?_)
  refine call_ (f := 73) #[.bool (decide (e.t ≤ m.clk)), .func (.func 99) #[] #[pA sb, pA xb, pA hb]] (by rfl) rfl (by first | (go_simp <;> rfl) | (simp only [HTC.out]; go_simp <;> rfl)) ?_
  refine (un_end (decide (e.t ≤ m.clk)) 2 e.hn e.hg (by have := HN.out; omega) HW.out.1 HW.out.2.1 HE.out.2.dj.md HE.out.1).mono ?_
  rintro r w7 ⟨rfl, hm, hf⟩
  refine ⟨_, rfl, ?_⟩
  have HM := Aside0.mk (And.intro hm (HE.out.2.dj.fr.trans hf))
  clear hm hf
  refine hK.out _ _ ?_
  clear hK K
  refine norm_ (a' := ?_) ?_ ?_
  rotate_left
  · show Act.put _ (some 57) _ = _
    simp only [Act.put, List.setIfInBounds_toArray, List.set_cons_zero, List.set_cons_succ, i64_w, i32_w]
    rfl
  refine pure_ (i := 22) (N := (some 4)) (v := ?_) (a' := ?_) #[true, true, true, true, true, true, true, true, true, true, true, true, true, true, true, true, true, true, true, true, true, true, true] rfl rfl (any_of HT_.out (by kernel_rfl)) (fun _ _ _ h => h) (Or.inl ⟨by rfl, ?_⟩) ?_ ?_
  rotate_left
  · intro w'
    go_simp
    with_reducible rfl
  rotate_left
  · simp only [Act.put, List.setIfInBounds_toArray, List.set_cons_zero, List.set_cons_succ, i64_w, i32_w]
    rfl
  refine done_ (done_of HT_.out (by kernel_rfl)) ?_
  go_wp2
  go_ret
  exact DoPost.of HF.out rfl HM.out.1 HM.out.2
theorem do_any {w : World} {B b n m1 m2 : Nat} {m : Md} (e : Ev) (hw : (Lit.int .i64 e.hn).wf = true ∧ (Lit.int .i64 e.hg).wf = true ∧ (Lit.int .i64 e.nn).wf = true ∧ (Lit.int .i64 e.ng).wf = true) (hn : n + 1 ≤ 1000000) (hwl : ∀ x, (Lit.int .i64 ((m.lst x).getD 0)).wf = true) (h : MdIs w B b n m m1 m2) :
    Calls Try.prog 43 #[pA b, .agg (evA e)] w (DoPost w B b n m1 m2 (doF m e)) := by
  cases hr : rightJ e with
  | false => exact do_wrong e hw hn hwl h hr
  | true =>
    have hk : e.k = 1 ∨ e.k = 2 ∨ e.k = 3 ∨ e.k = 4 ∨ e.k = 5 := by
      have h := hr
      unfold rightJ Ev.evRight Ev.kindB at h
      simp at h
      omega
    rcases hk with hk | hk | hk | hk | hk
    · exact do_tick e hw hn hwl h hr hk
    · exact do_other e hw hn hwl h hr (.inl hk)
    · exact do_point e hw hn hwl h hr hk
    · by_cases ha : m.st e.h = 1
      · by_cases hd : m.dl e.h ≤ e.t
        · exact do_fire e hw hn hwl h hr hk ha hd
        · exact do_fire_early e hw hn hwl h hr hk ha hd
      · exact do_fire_no e hw hn hwl h hr hk ha
    · exact do_other e hw hn hwl h hr (.inr hk)
end Go.Proofs.Ythniclbmpeklmaa.Ju
end
section
namespace Go.Proofs.Ythniclbmpeklmaa.Ju
open Go.RowKit Go.Maps Go.Proofs.YthniclbmpeklmaaW.PrintWords Go.Proofs.YthniclbmpeklmaaW.PrintLast Go.Proofs.YthniclbmpeklmaaW.PrintMore Go.Proofs.Ythniclbmpeklmaa.Mp Go.Proofs.Ythniclbmpeklmaa.Au
set_option linter.unusedVariables false
set_option linter.unusedSimpArgs false
attribute [local go_sem high] Ev.eqHa
/-- What a walk over a bench stands on: the bench, and the box of the event. -/
structure Bj (w W : World) (B b n mb m1 m2 m3 : Nat) (s : Be) (pf : Int → Option Nat) (e : Ev) (eb : Nat) : Prop where
  be : BeIs W B b n s mb m1 m2 m3 pf
  eb_ : W.heap[eb]? = some (.cells (evA e) 54 (0, 0))
  bel : Below B w W
  hB : B ≤ w.heap.size
  he : B ≤ eb
section
variable {w W W1 : World} {B b n mb m1 m2 m3 eb : Nat} {s : Be} {pf : Int → Option Nat} {e : Ev}
theorem Bj.start (h : BeIs w B b n s mb m1 m2 m3 pf) (hB : B ≤ w.heap.size) (e : Ev) : Bj w (w.alloc (.cells (evA e) 54)) B b n mb m1 m2 m3 s pf e w.heap.size :=
  ⟨h.alloc _, blk_new _ _, below_then (Below.refl B w) (by omega) (below_alloc (Below.refl _ _) _), hB, hB⟩
theorem Bj.step (h : Bj w W B b n mb m1 m2 m3 s pf e eb) (hb : Below W.heap.size W W1) : Bj w W1 B b n mb m1 m2 m3 s pf e eb := ⟨h.be.below hb, blk_below h.eb_ hb, below_then h.bel (by have := h.bel.size; have := h.hB; omega) hb, h.hB, h.he⟩
theorem Bj.alloc (h : Bj w W B b n mb m1 m2 m3 s pf e eb) (o : Obj) : Bj w (W.alloc o) B b n mb m1 m2 m3 s pf e eb := h.step (below_alloc (Below.refl _ _) o)
theorem Bj.drew (h : Bj w W B b n mb m1 m2 m3 s pf e eb) : Bj w W.drew B b n mb m1 m2 m3 s pf e eb := ⟨h.be.drew, h.eb_, below_drew h.bel, h.hB, h.he⟩
theorem Bj.drewN (h : Bj w W B b n mb m1 m2 m3 s pf e eb) (q : Nat) : Bj w (W.drewN q) B b n mb m1 m2 m3 s pf e eb := ⟨h.be.drewN q, h.eb_, pw_below_drewN h.bel q, h.hB, h.he⟩
theorem Bj.cells (h : Bj w W B b n mb m1 m2 m3 s pf e eb) : (∀ i, W.cell? ⟨b, i, none⟩ = (beA s.nw mb m3)[i]?) ∧ (∀ i, W.cell? ⟨eb, i, none⟩ = (evA e)[i]?) := ⟨fun i => h.be.cell i, fun i => blk_cell h.eb_ i⟩
/-- The model has turned. -/
theorem Bj.model {n' : Nat} {m' : Md} (h : Bj w W B b n mb m1 m2 m3 s pf e eb) (hm : MdIs W1 B mb n' m' m1 m2) (hn : n ≤ n') (hf : Fr W W1 (mdS mb m1 m2)) : Bj w W1 B b n' mb m1 m2 m3 { s with m := m' } pf e eb := by
  refine ⟨h.be.model hm hn hf, hf.blk h.eb_ ?_, h.bel.trans (hf.below ?_ ?_), h.hB, h.he⟩
  · rintro (q | q | q)
    · exact types_ne h.eb_ h.be.md.blk (by decide) q
    · obtain ⟨z, _, hz⟩ := h.be.md.mf; obtain ⟨_, _, hq⟩ := hz.block; exact map_ne h.eb_ hq q
    · obtain ⟨z, _, hz⟩ := h.be.md.ml; obtain ⟨_, _, hq⟩ := hz.block; exact map_ne h.eb_ hq q
  · have := h.bel.size; have := h.hB; omega
  · rintro g (q | q | q)
    · rw [q]; exact h.be.md.hb
    · rw [q]; exact h.be.md.h1
    · rw [q]; exact h.be.md.h2
end
/-- .. and a worker's work. -/
structure Wj (w W : World) (B b n mb m1 m2 m3 : Nat) (s : Be) (pf : Int → Option Nat) (e : Ev) (eb g : Nat) (iv : Ev) (beg : Int) (pp : Option Addr) : Prop where
  bj : Bj w W B b n mb m1 m2 m3 s pf e eb
  gb : W.heap[g]? = some (.cells (wkA iv beg pp) 119 (0, 0))
section
variable {w W W1 : World} {B b n mb m1 m2 m3 eb g : Nat} {s : Be} {pf : Int → Option Nat} {e iv : Ev} {beg : Int} {pp : Option Addr}
theorem Wj.step (h : Wj w W B b n mb m1 m2 m3 s pf e eb g iv beg pp) (hb : Below W.heap.size W W1) : Wj w W1 B b n mb m1 m2 m3 s pf e eb g iv beg pp := ⟨h.bj.step hb, blk_below h.gb hb⟩
theorem Wj.drew (h : Wj w W B b n mb m1 m2 m3 s pf e eb g iv beg pp) : Wj w W.drew B b n mb m1 m2 m3 s pf e eb g iv beg pp := ⟨h.bj.drew, h.gb⟩
theorem Wj.drewN (h : Wj w W B b n mb m1 m2 m3 s pf e eb g iv beg pp) (q : Nat) : Wj w (W.drewN q) B b n mb m1 m2 m3 s pf e eb g iv beg pp := ⟨h.bj.drewN q, h.gb⟩
theorem Wj.cells (h : Wj w W B b n mb m1 m2 m3 s pf e eb g iv beg pp) : (∀ i, W.cell? ⟨b, i, none⟩ = (beA s.nw mb m3)[i]?) ∧ (∀ i, W.cell? ⟨eb, i, none⟩ = (evA e)[i]?) ∧ (∀ i, W.cell? ⟨g, i, none⟩ = (wkA iv beg pp)[i]?) := ⟨h.bj.cells.1, h.bj.cells.2, fun i => blk_cell h.gb i⟩
theorem Wj.model {n' : Nat} {m' : Md} (h : Wj w W B b n mb m1 m2 m3 s pf e eb g iv beg pp) (hm : MdIs W1 B mb n' m' m1 m2) (hn : n ≤ n') (hf : Fr W W1 (mdS mb m1 m2)) : Wj w W1 B b n' mb m1 m2 m3 { s with m := m' } pf e eb g iv beg pp := by
  refine ⟨h.bj.model hm hn hf, hf.blk h.gb ?_⟩
  rintro (q | q | q)
  · exact types_ne h.gb h.bj.be.md.blk (by decide) q
  · obtain ⟨z, _, hz⟩ := h.bj.be.md.mf; obtain ⟨_, _, hq⟩ := hz.block; exact map_ne h.gb hq q
  · obtain ⟨z, _, hz⟩ := h.bj.be.md.ml; obtain ⟨_, _, hq⟩ := hz.block; exact map_ne h.gb hq q
end
/-- What a bench's function leaves. -/
def BePost (w : World) (B b n mb m1 m2 m3 : Nat) (p : Be × Int) (r : Ending) (w' : World) : Prop := r = .returned (.int .i64 p.2) ∧ (∃ pf, BeIs w' B b (n + 4) p.1 mb m1 m2 m3 pf) ∧ Below B w w'
theorem BePost.of {w W : World} {B b n mb m1 m2 m3 : Nat} {p q : Be × Int} (h : p = q) {v : Int} (hv : v = q.2) {pf : Int → Option Nat} (hm : BeIs W B b (n + 4) q.1 mb m1 m2 m3 pf) (hf : Below B w W) : BePost w B b n mb m1 m2 m3 p (.returned (.int .i64 v)) W := by
  subst h
  subst hv
  exact ⟨rfl, ⟨pf, hm⟩, hf⟩
set_option maxHeartbeats 4000000 in
set_option maxRecDepth 100000 in
theorem judge_new_no (n : Int) (h : n < 1 ∨ 64 < n) (w : World) : Calls Try.prog 26 #[.int .i64 n] w fun r w' => r = .returned (.tuple #[.pointer none, .int .i64 1]) ∧ w' = w := by
  by_cases h1 : n < 1
  · have g1 : decide (n < 1) = true := decide_eq_true h1
    clear h h1
    go_enter Try.func26, Try.ntmps26
    go_wp2
    go_ret2
    exact ⟨rfl, rfl⟩
  · have g1 : decide (n < 1) = false := decide_eq_false h1
    have g2 : decide (n > 64) = true := decide_eq_true (by omega)
    clear h h1
    go_enter Try.func26, Try.ntmps26
    go_wp2
    go_ret2
    exact ⟨rfl, rfl⟩
set_option maxHeartbeats 4000000 in
set_option maxRecDepth 100000 in
theorem judge_new (n : Int) (h : ¬ (n < 1 ∨ 64 < n)) (w : World) : Calls Try.prog 26 #[.int .i64 n] w fun r w' => ∃ b mb m1 m2 m3, r = .returned (.tuple #[pA b, .int .i64 0]) ∧ BeIs w' w.heap.size b 0 (be0 n) mb m1 m2 m3 (fun _ => none) ∧ Below w.heap.size w w' := by
  have hmm := @run_makeMap Try.prog
  have hu0 := Try.underlying61
  have g1 : decide (n < 1) = false := decide_eq_false (by omega)
  have g2 : decide (n > 64) = false := decide_eq_false (by omega)
  have CM := Aside0.mk (model_new w)
  clear h
  go_enter Try.func26, Try.ntmps26
  go_wp2_with (go_at_call 40; (with_reducible refine CM.out.mono ?_); rintro r w2 ⟨rfl, hm, hb⟩; have HM := Aside0.mk (And.intro hm hb); have hz := (And.intro hm hb).2.size; clear hm hb)
  go_ret2
  have hm := HM.out.1
  have hb := HM.out.2
  have hl1 := hm.lt1
  have hl2 := hm.lt2
  have q3 := (MapIs.made (c := Value.int .i64) w2 Try.prog 3).move (w' := (w2.alloc (.map #[] 0)).alloc (.cells (beA n (w.heap.size + 1 + 1) w2.heap.size) 61)) (by rw [Below.heap_alloc _ _ _ (by simp)])
  have qb := blk_new (w2.alloc (.map #[] 0)) (.cells (beA n (w.heap.size + 1 + 1) w2.heap.size) 61)
  rw [show (w2.alloc (.map #[] 0)).heap.size = w2.heap.size + 1 by simp] at qb
  have hpn : pV (fun _ => none) = (fun _ => none : Int → Option Value) := rfl
  exact ⟨_, _, _, _, _, rfl, ⟨qb, (hm.alloc _).alloc _, ⟨[], List.nodup_nil, Nat.le_refl _, fun x => by simp, by rw [hpn]; exact q3⟩, fun x => .inl ⟨rfl, rfl⟩, fun x y g hx => (by cases hx), by omega, by omega, by omega, by omega⟩, below_alloc (below_alloc hb _) _⟩
set_option maxHeartbeats 4000000 in
set_option maxRecDepth 100000 in
theorem within_no (d t f g : Int) (h : decide (t ≤ wrap64 (d - f)) = false) (w : World) : Calls Try.prog 95 #[.int .i64 d, .int .i64 t, .int .i64 f, .int .i64 g] w fun r w' => r = .returned (.bool (withinB d t f g)) ∧ w' = w := by
  have HW := Aside0.mk (show withinB d t f g = (false && decide (wrap64 (d - g) ≤ t)) by unfold withinB; rw [h])
  go_enter Try.func95, Try.ntmps95
  go_wp2
  go_ret
  exact ⟨by rw [HW.out]; rfl, rfl⟩
set_option maxHeartbeats 4000000 in
set_option maxRecDepth 100000 in
theorem within_yes (d t f g : Int) (h : decide (t ≤ wrap64 (d - f)) = true) (w : World) : Calls Try.prog 95 #[.int .i64 d, .int .i64 t, .int .i64 f, .int .i64 g] w fun r w' => r = .returned (.bool (withinB d t f g)) ∧ w' = w := by
  have HW := Aside0.mk (show withinB d t f g = (true && decide (wrap64 (d - g) ≤ t)) by unfold withinB; rw [h])
  go_enter Try.func95, Try.ntmps95
  go_wp2
  go_ret
  exact ⟨by rw [HW.out]; rfl, rfl⟩
theorem within_any (d t f g : Int) (w : World) : Calls Try.prog 95 #[.int .i64 d, .int .i64 t, .int .i64 f, .int .i64 g] w fun r w' => r = .returned (.bool (withinB d t f g)) ∧ w' = w := by
  cases h : decide (t ≤ wrap64 (d - f)) with
  | false => exact within_no d t f g h w
  | true => exact within_yes d t f g h w
set_option maxHeartbeats 4000000 in
set_option maxRecDepth 100000 in
theorem answers_none {w : World} {g : Nat} (iv : Ev) (beg : Int) (e : Ev) (hg : w.heap[g]? = some (.cells (wkA iv beg none) 119 (0, 0)))  :
    Calls Try.prog 67 #[pA g, .agg (evA e)] w fun r w' => r = .returned (.bool false) ∧ Below w.heap.size w w' := by
  have hu0 := Try.underlying119
  have hu1 := Try.underlying34
  have hu2 := Try.underlying54
  have hcg := fun i => blk_cell hg i
  have hlg := blk_lt hg
  clear hg
  go_enter Try.func67, Try.ntmps67
  go_wp2
  go_quiet (fail)
  go_wp2
  go_ret
  exact ⟨rfl, by repeat (first | exact Below.refl _ _ | apply below_alloc | apply pw_below_drewN)⟩
set_option maxHeartbeats 4000000 in
set_option maxRecDepth 100000 in
theorem answers_handle {w : World} {g q : Nat} (iv ev : Ev) (beg : Int) (e : Ev) (hg : w.heap[g]? = some (.cells (wkA iv beg (some ⟨q, 0, none⟩)) 119 (0, 0))) (hq : w.heap[q]? = some (.cells (evA ev) 54 (0, 0))) (h1 : (ev.nn == e.nn && (ev.ng == e.ng)) = false) :
    Calls Try.prog 67 #[pA g, .agg (evA e)] w fun r w' => r = .returned (.bool false) ∧ Below w.heap.size w w' := by
  have hu0 := Try.underlying119
  have hu1 := Try.underlying34
  have hu2 := Try.underlying54
  have hcg := fun i => blk_cell hg i
  have hlg := blk_lt hg
  have hcq := fun i => blk_cell hq i
  have hlq := blk_lt hq
  clear hg hq
  go_enter Try.func67, Try.ntmps67
  go_wp2
  go_quiet (fail)
  go_wp2
  go_ret
  exact ⟨rfl, by repeat (first | exact Below.refl _ _ | apply below_alloc | apply pw_below_drewN)⟩
set_option maxHeartbeats 4000000 in
set_option maxRecDepth 100000 in
theorem answers_yes {w : World} {g q : Nat} (iv ev : Ev) (beg : Int) (e : Ev) (hg : w.heap[g]? = some (.cells (wkA iv beg (some ⟨q, 0, none⟩)) 119 (0, 0))) (hq : w.heap[q]? = some (.cells (evA ev) 54 (0, 0))) (h1 : (ev.nn == e.nn && (ev.ng == e.ng)) = true) (h2 : (ev.y == e.y) = false) :
    Calls Try.prog 67 #[pA g, .agg (evA e)] w fun r w' => r = .returned (.bool false) ∧ Below w.heap.size w w' := by
  have hu0 := Try.underlying119
  have hu1 := Try.underlying34
  have hu2 := Try.underlying54
  have hcg := fun i => blk_cell hg i
  have hlg := blk_lt hg
  have hcq := fun i => blk_cell hq i
  have hlq := blk_lt hq
  clear hg hq
  go_enter Try.func67, Try.ntmps67
  go_wp2
  go_quiet (fail)
  go_wp2
  go_ret
  exact ⟨rfl, by repeat (first | exact Below.refl _ _ | apply below_alloc | apply pw_below_drewN)⟩
set_option maxHeartbeats 4000000 in
set_option maxRecDepth 100000 in
theorem answers_err {w : World} {g q : Nat} (iv ev : Ev) (beg : Int) (e : Ev) (hg : w.heap[g]? = some (.cells (wkA iv beg (some ⟨q, 0, none⟩)) 119 (0, 0))) (hq : w.heap[q]? = some (.cells (evA ev) 54 (0, 0))) (h1 : (ev.nn == e.nn && (ev.ng == e.ng)) = true) (h2 : (ev.y == e.y) = true) :
    Calls Try.prog 67 #[pA g, .agg (evA e)] w fun r w' => r = .returned (.bool (ev.er == e.er)) ∧ Below w.heap.size w w' := by
  have hu0 := Try.underlying119
  have hu1 := Try.underlying34
  have hu2 := Try.underlying54
  have hcg := fun i => blk_cell hg i
  have hlg := blk_lt hg
  have hcq := fun i => blk_cell hq i
  have hlq := blk_lt hq
  clear hg hq
  go_enter Try.func67, Try.ntmps67
  go_wp2
  go_quiet (fail)
  go_wp2
  go_ret
  exact ⟨rfl, by repeat (first | exact Below.refl _ _ | apply below_alloc | apply pw_below_drewN)⟩
theorem answers_any {w : World} {B g : Nat} {k : Wk} (h : WkIs w B g k) (e : Ev) : Calls Try.prog 67 #[pA g, .agg (evA e)] w fun r w' => r = .returned (.bool (answersB k e)) ∧ Below w.heap.size w w' := by
  obtain ⟨_, iv, pp, hg, _, _, _, _, ⟨rfl, hp⟩ | ⟨q, ev, rfl, _, hq, hp⟩⟩ := h
  · have hr : answersB k e = false := by unfold answersB; rw [hp]
    rw [hr]
    exact answers_none iv k.beg e hg
  · have hr : answersB k e = ((ev.nn == e.nn && (ev.ng == e.ng)) && ((ev.y == e.y) && (ev.er == e.er))) := by unfold answersB; rw [hp]; unfold ptOf; simp [Bool.and_assoc]
    rw [hr]
    cases h1 : (ev.nn == e.nn && (ev.ng == e.ng)) with
    | false => exact answers_handle iv ev k.beg e hg hq h1
    | true =>
      cases h2 : (ev.y == e.y) with
      | false => exact answers_yes iv ev k.beg e hg hq h1 h2
      | true => exact answers_err iv ev k.beg e hg hq h1 h2
end Go.Proofs.Ythniclbmpeklmaa.Ju
end
