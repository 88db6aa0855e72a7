/- What is proved: (*Model).Do does with a model in memory what doF says. -/
import Derived.Test.YthniclbmpeklmaaJuB
import Derived.Test.YthniclbmpeklmaaEvJ
namespace Go.Proofs.Ythniclbmpeklmaa.Ju
open Go.RowKit Go.Maps Go.Proofs.YthniclbmpeklmaaW.PrintWords Go.Proofs.YthniclbmpeklmaaW.PrintLast Go.Proofs.YthniclbmpeklmaaW.PrintMore Go.Proofs.Ythniclbmpeklmaa.Mp Go.Proofs.Ythniclbmpeklmaa.Au
set_option linter.unusedVariables false
set_option linter.unusedSimpArgs false
theorem right_run (e : Ev) (W : World) : Calls Try.prog 65 #[.agg (evA e)] W fun r w' => r = .returned (.bool (rightJ e)) ∧ Below W.heap.size W w' := Ev.event_right e.k e.wk e.op e.hn e.hg e.nn e.ng e.t e.a e.u e.y e.er W
theorem gen_world' {P : Program} {c : Code} {Q : Exit → Act → World → Prop} {a : Act} {w : World} (R : World → Prop) (h : R w) (k : ∀ W, R W → c.wp P Q a W) : c.wp P Q a w := k w h
/-- The fate that is looked up lies in a block of its own. -/
structure Dk (w W : World) (B b n m1 m2 : Nat) (m : Md) (e : Ev) (fb : Nat) : Prop where
  dj : Dj w W B b n m1 m2 m e
  fb : W.heap[fb]? = some (.cells #[.int .i64 (m.st e.h), .int .i64 (m.dl e.h)] 122 (0, 0))
section
variable {w W W1 : World} {B b n m1 m2 fb : Nat} {m : Md} {e : Ev}
theorem Dk.step (h : Dk w W B b n m1 m2 m e fb) (hb : Below W.heap.size W W1) : Dk w W1 B b n m1 m2 m e fb := ⟨h.dj.step hb, blk_below h.fb hb⟩
theorem Dk.drew (h : Dk w W B b n m1 m2 m e fb) : Dk w W.drew B b n m1 m2 m e fb := ⟨h.dj.drew, h.fb⟩
theorem Dk.cells (h : Dk w W B b n m1 m2 m e fb) : (∀ i, W.cell? ⟨b, i, none⟩ = (mdA m m1 m2)[i]?) ∧ (∀ i, W.cell? ⟨w.heap.size, i, none⟩ = (#[pA b] : Array Value)[i]?) ∧ (∀ i, W.cell? ⟨w.heap.size + 1, i, none⟩ = (evA e)[i]?) ∧ (∀ i, W.cell? ⟨fb, i, none⟩ = (#[.int .i64 (m.st e.h), .int .i64 (m.dl e.h)] : Array Value)[i]?) := ⟨h.dj.cells.1, h.dj.cells.2.1, h.dj.cells.2.2, fun i => blk_cell h.fb i⟩
end

def doR.T7 : Bool × List (List Nat × List Nat) := (true, [([], []), ([0], [0]), ([], []), ([2], [2]), ([3], [3]), ([4], [4]), ([5], [5]), ([1, 6], [1, 6]), ([], []), ([7, 8], [7, 8]), ([9, 9, 0, 1, 2, 3, 4, 5, 6, 7, 8, 9], [9])])
def doR.B7 : List Nat := [0, 1, 0, 4, 12, 28, 60, 127, 0, 511, 1023]
theorem doR.tab7 : rtab .any (opsOf Try.f43 7) = doR.T7 := by kernel_rfl
theorem doR.bits7 : waitsOk doR.T7.2 doR.B7 = true := by kernel_rfl
def doR.T9 : Bool × List (List Nat × List Nat) := (true, [([], []), ([0], [0]), ([1], [1]), ([2, 1], [1, 2]), ([1], [1]), ([4, 1], [1, 4]), ([3, 5, 1], [1, 3, 5]), ([1, 6], [1, 6]), ([7, 1], [7]), ([8], [8]), ([9, 8], [8, 9]), ([8], [8]), ([11, 8], [8, 11]), ([12, 8], [8, 12]), ([13, 8], [8, 13]), ([10, 14, 8], [8, 10, 14]), ([8, 15], [8, 15]), ([], []), ([], []), ([18], [18]), ([17, 19, 8], [17, 19]), ([16, 20, 20], [16, 20]), ([21, 21, 0, 1, 2, 3, 4, 5, 6, 7, 8, 9, 10, 11, 12, 13, 14, 15, 16, 17, 18, 19, 20, 21], [21])])
def doR.B9 : List Nat := [0, 1, 3, 7, 3, 19, 63, 127, 255, 511, 1023, 511, 2559, 6655, 14847, 32767, 65535, 0, 0, 262144, 918015, 2097151, 4194303]
theorem doR.tab9 : rtab .any (opsOf Try.f43 9) = doR.T9 := by kernel_rfl
theorem doR.bits9 : waitsOk doR.T9.2 doR.B9 = true := by kernel_rfl

def doR.T3 : Bool × List (List Nat × List Nat) := (true, [([], []), ([0], [0]), ([1], [1]), ([2], [2]), ([], []), ([4], [4]), ([3, 5], [3, 5]), ([], []), ([7, 6, 0, 1, 2, 3, 4, 5, 6, 7], [6, 7])])
def doR.B3 : List Nat := [0, 1, 3, 7, 0, 16, 63, 0, 255]
theorem doR.tab3 : rtab .any (opsOf Try.f43 3) = doR.T3 := by kernel_rfl
theorem doR.bits3 : waitsOk doR.T3.2 doR.B3 = true := by kernel_rfl

set_option maxHeartbeats 4000000 in
set_option maxRecDepth 100000 in
theorem do_wrong {w : World} {B b n m1 m2 : Nat} {m : Md} (e : Ev) (hw : (Lit.int .i64 e.hn).wf = true ∧ (Lit.int .i64 e.hg).wf = true ∧ (Lit.int .i64 e.nn).wf = true ∧ (Lit.int .i64 e.ng).wf = true) (hn : n + 1 ≤ 1000000) (hwl : ∀ x, (Lit.int .i64 ((m.lst x).getD 0)).wf = true) (h : MdIs w B b n m m1 m2) (hr : rightJ e = false) :
    Calls Try.prog 43 #[pA b, .agg (evA e)] w (DoPost w B b n m1 m2 (doF m e)) := by
  have hu0 := Try.underlying125
  have hu1 := Try.underlying34
  have hu2 := Try.underlying54
  have hu3 := Try.underlying122
  have hmf : ∀ (fn : Fn) (first cap : Array Value) (w : World), (Instr.makeFunc fn first cap).run Try.prog w = .ok (.func fn first cap) w := fun _ _ _ _ => rfl
  have HF := Aside0.mk (show doF m e = (m, 8) by unfold doF; rw [if_pos hr])
  have CR := Aside0.mk (fun W => right_run e W)
  rw [hr] at CR
  have HW := Aside0.mk hw
  have HN := Aside0.mk hn
  have HWL := Aside0.mk hwl
  have HJ := Aside0.mk (Dj.start h e)
  clear hw hn hwl h hr
  have hcx := fun i => blk_cell HJ.out.xb i
  have hce := fun i => blk_cell HJ.out.eb i
  have hlx := blk_lt HJ.out.xb
  have hle := blk_lt HJ.out.eb
  have hcm := fun i => HJ.out.md.cell i
  have hlm := HJ.out.md.lt
  go_enter Try.func43, Try.ntmps43
  go_wp2_with (first | (go_at_call 65; (with_reducible refine (CR.out _).mono ?_); rintro r w2 ⟨rfl, hb2⟩; have HJ2 := Aside0.mk (HJ.out.step hb2); clear hb2 hcx hce hlx hle hcm hlm; have HJ := HJ2; have hcx := fun i => blk_cell HJ.out.xb i; have hce := fun i => blk_cell HJ.out.eb i; have hlx := blk_lt HJ.out.xb; have hle := blk_lt HJ.out.eb; have hcm := fun i => HJ.out.md.cell i; have hlm := HJ.out.md.lt))
  go_ret
  exact DoPost.of HF.out rfl (HJ.out.md.up (by omega)) HJ.out.fr

set_option maxHeartbeats 4000000 in
set_option maxRecDepth 100000 in
theorem do_other {w : World} {B b n m1 m2 : Nat} {m : Md} (e : Ev) (hw : (Lit.int .i64 e.hn).wf = true ∧ (Lit.int .i64 e.hg).wf = true ∧ (Lit.int .i64 e.nn).wf = true ∧ (Lit.int .i64 e.ng).wf = true) (hn : n + 1 ≤ 1000000) (hwl : ∀ x, (Lit.int .i64 ((m.lst x).getD 0)).wf = true) (h : MdIs w B b n m m1 m2) (hr : rightJ e = true) (hk : e.k = 2 ∨ e.k = 5) :
    Calls Try.prog 43 #[pA b, .agg (evA e)] w (DoPost w B b n m1 m2 (doF m e)) := by
  have hu0 := Try.underlying125
  have hu1 := Try.underlying34
  have hu2 := Try.underlying54
  have hu3 := Try.underlying122
  have hmf : ∀ (fn : Fn) (first cap : Array Value) (w : World), (Instr.makeFunc fn first cap).run Try.prog w = .ok (.func fn first cap) w := fun _ _ _ _ => rfl
  have HF := Aside0.mk (show doF m e = (m, 8) by unfold doF; rw [if_neg (by rw [hr]; simp), if_neg (by omega), if_neg (by omega), if_neg (by omega)])
  have k1 : (e.k == 1) = false := beq_eq_false_iff_ne.2 (by omega)
  have k4 : (e.k == 4) = false := beq_eq_false_iff_ne.2 (by omega)
  have k3 : (e.k == 3) = false := beq_eq_false_iff_ne.2 (by omega)
  have CR := Aside0.mk (fun W => right_run e W)
  rw [hr] at CR
  have HW := Aside0.mk hw
  have HN := Aside0.mk hn
  have HWL := Aside0.mk hwl
  have HJ := Aside0.mk (Dj.start h e)
  clear hw hn hwl h hr hk
  have hcx := fun i => blk_cell HJ.out.xb i
  have hce := fun i => blk_cell HJ.out.eb i
  have hlx := blk_lt HJ.out.xb
  have hle := blk_lt HJ.out.eb
  have hcm := fun i => HJ.out.md.cell i
  have hlm := HJ.out.md.lt
  go_enter Try.func43, Try.ntmps43
  go_wp2_with (first | (go_at_call 65; (with_reducible refine (CR.out _).mono ?_); rintro r w2 ⟨rfl, hb2⟩; have HJ2 := Aside0.mk (HJ.out.step hb2); clear hb2 hcx hce hlx hle hcm hlm; have HJ := HJ2; have hcx := fun i => blk_cell HJ.out.xb i; have hce := fun i => blk_cell HJ.out.eb i; have hlx := blk_lt HJ.out.xb; have hle := blk_lt HJ.out.eb; have hcm := fun i => HJ.out.md.cell i; have hlm := HJ.out.md.lt))
  obtain ⟨kl, hkl⟩ := keyH e.hn e.hg HW.out.1 HW.out.2.1
  refine start_ (n := 9) (S := (fun w' => (∀ i, w'.cell? ⟨b, i, none⟩ = (mdA m m1 m2)[i]?) ∧ (∀ i, w'.cell? ⟨w.heap.size, i, none⟩ = (#[pA b] : Array Value)[i]?) ∧ (∀ i, w'.cell? ⟨w.heap.size + 1, i, none⟩ = (evA e)[i]?) ∧ (Instr.lookup 123 (.map (some m1)) (haV e.h) false).run Try.prog w' = .ok (.agg #[.int .i64 (m.st e.h), .int .i64 (m.dl e.h)]) w')) (ds := [8]) #[false, false, false, false, false, false, false, false, false] (by kernel_rfl) rfl rfl ⟨HJ.out.drew.cells.1, HJ.out.drew.cells.2.1, HJ.out.drew.cells.2.2, HJ.out.drew.md.look hkl _ rfl⟩ (fun hHeld => ?_)
  refine with_tabW doR.tab3 doR.bits3 (fun HT_ HW_ => ?_)
  have HJ3 := Aside0.mk HJ.out.drew
  generalize World.drew _ = w3 at HJ3 hHeld ⊢
  clear HJ hcx hce hlx hle hcm hlm
  have hlx := blk_lt HJ3.out.xb
  have hle := blk_lt HJ3.out.eb
  have hlm := HJ3.out.md.lt
  refine pure_ (i := 4) (N := (some 14)) (v := ?_) (a' := ?_) #[false, false, false, false, true, false, false, false, false] rfl rfl (any_of HT_.out (by kernel_rfl)) (fun _ _ _ h => h) (Or.inl ⟨by rfl, ?_⟩) ?_ ?_
  rotate_left
  · intro w'
    go_simp
    with_reducible rfl
  rotate_left
  · simp only [Act.put, List.setIfInBounds_toArray, List.set_cons_zero, List.set_cons_succ, i64_w, i32_w]
    rfl
  refine take_ (i := 0) (N := (some 10)) (v := ?_) (a' := ?_) #[true, false, false, false, true, false, false, false, false] rfl rfl (take_ofW HT_.out HW_.out (by kernel_rfl)) (fun _ _ _ h => h) (Or.inl ⟨by rfl, ?_⟩) hHeld ?_ ?_
  rotate_left
  · rintro w' ⟨s0, s1, s2, s3⟩
    go_simp
    with_reducible rfl
  rotate_left
  · simp only [Act.put, List.setIfInBounds_toArray, List.set_cons_zero, List.set_cons_succ, i64_w, i32_w]
    rfl
  refine pure_ (i := 1) (N := (some 11)) (v := ?_) (a' := ?_) #[true, true, false, false, true, false, false, false, false] rfl rfl (any_of HT_.out (by kernel_rfl)) (fun _ _ _ h => h) (Or.inl ⟨by rfl, ?_⟩) ?_ ?_
  rotate_left
  · intro w'
    go_simp
    with_reducible rfl
  rotate_left
  · simp only [Act.put, List.setIfInBounds_toArray, List.set_cons_zero, List.set_cons_succ, i64_w, i32_w]
    rfl
  refine pure_ (i := 2) (N := (some 12)) (v := ?_) (a' := ?_) #[true, true, true, false, true, false, false, false, false] rfl rfl (any_of HT_.out (by kernel_rfl)) (fun _ _ _ h => h) (Or.inl ⟨by rfl, ?_⟩) ?_ ?_
  rotate_left
  · intro w'
    go_simp
    with_reducible rfl
  rotate_left
  · simp only [Act.put, List.setIfInBounds_toArray, List.set_cons_zero, List.set_cons_succ, i64_w, i32_w]
    rfl
  refine take_ (i := 3) (N := (some 13)) (v := ?_) (a' := ?_) #[true, true, true, true, true, false, false, false, false] rfl rfl (take_ofW HT_.out HW_.out (by kernel_rfl)) (fun _ _ _ h => h) (Or.inl ⟨by rfl, ?_⟩) hHeld ?_ ?_
  rotate_left
  · rintro w' ⟨s0, s1, s2, s3⟩
    go_simp
    with_reducible rfl
  rotate_left
  · simp only [Act.put, List.setIfInBounds_toArray, List.set_cons_zero, List.set_cons_succ, i64_w, i32_w]
    rfl
  refine take_ (i := 5) (N := (some 15)) (v := ?_) (a' := ?_) #[true, true, true, true, true, true, false, false, false] rfl rfl (take_ofW HT_.out HW_.out (by kernel_rfl)) (fun _ _ _ h => h) (Or.inl ⟨by rfl, ?_⟩) hHeld ?_ ?_
  rotate_left
  · rintro w' ⟨s0, s1, s2, s3⟩
    go_simp
    with_reducible rfl
  rotate_left
  · simp only [Act.put, List.setIfInBounds_toArray, List.set_cons_zero, List.set_cons_succ, i64_w, i32_w]
    rfl
  refine take_ (i := 6) (N := (some 16)) (v := ?_) (a' := ?_) #[true, true, true, true, true, true, true, false, false] rfl rfl (take_ofW HT_.out HW_.out (by kernel_rfl)) (fun _ _ _ h => h) (Or.inl ⟨by rfl, ?_⟩) hHeld ?_ ?_
  rotate_left
  · rintro w' ⟨s0, s1, s2, s3⟩
    go_simp
    with_reducible rfl
  rotate_left
  · simp only [Act.put, List.setIfInBounds_toArray, List.set_cons_zero, List.set_cons_succ, i64_w, i32_w]
    rfl
  refine one_ (i := 7) (N := (some 5)) #[true, true, true, true, true, true, true, true, false] rfl rfl (one_of HT_.out (by kernel_rfl)) (by decide) (fun K hK => ?_)
  refine value_ (by rfl) rfl (v := .pointer (some ⟨w3.heap.size, 0, none⟩)) (w1 := w3.alloc (.cells #[.int .i64 0, .int .i64 0] 122)) (by go_simp <;> rfl) ?_
  refine hK.out _ _ ⟨(HJ3.out.alloc _).cells.1, (HJ3.out.alloc _).cells.2.1, (HJ3.out.alloc _).cells.2.2, (HJ3.out.alloc _).md.look hkl _ rfl⟩ (fun hHeld => ?_)
  clear hK K
  refine norm_ (a' := ?_) ?_ ?_
  rotate_left
  · show Act.put _ (some 5) _ = _
    simp only [Act.put, List.setIfInBounds_toArray, List.set_cons_zero, List.set_cons_succ, i64_w, i32_w]
    rfl
  refine last_ (i := 8) (N := none) #[true, true, true, true, true, true, true, true, true] rfl rfl (one_of HT_.out (by kernel_rfl)) (by decide) (fun K hK => ?_)
  refine skip_ (by rfl) rfl (w1 := w3.alloc (.cells #[.int .i64 (m.st e.h), .int .i64 (m.dl e.h)] 122)) (by go_simp <;> rfl) ?_
  refine hK.out _ _ ?_
  clear hK K
  refine done_ (done_of HT_.out (by kernel_rfl)) ?_
  clear hHeld
  have hcx := fun i => blk_cell (HJ3.out.alloc (.cells #[.int .i64 (m.st e.h), .int .i64 (m.dl e.h)] 122)).xb i
  have hce := fun i => blk_cell (HJ3.out.alloc (.cells #[.int .i64 (m.st e.h), .int .i64 (m.dl e.h)] 122)).eb i
  have hcm := fun i => (HJ3.out.alloc (.cells #[.int .i64 (m.st e.h), .int .i64 (m.dl e.h)] 122)).md.cell i
  have HK := Aside0.mk (show Dk w (w3.alloc (.cells #[.int .i64 (m.st e.h), .int .i64 (m.dl e.h)] 122)) B b n m1 m2 m e w3.heap.size from ⟨HJ3.out.alloc _, blk_new _ _⟩)
  clear hkl
  go_wp2
  go_ret
  exact DoPost.of HF.out rfl (HK.out.dj.md.up (by omega)) HK.out.dj.fr

set_option maxHeartbeats 4000000 in
set_option maxRecDepth 100000 in
theorem do_point {w : World} {B b n m1 m2 : Nat} {m : Md} (e : Ev) (hw : (Lit.int .i64 e.hn).wf = true ∧ (Lit.int .i64 e.hg).wf = true ∧ (Lit.int .i64 e.nn).wf = true ∧ (Lit.int .i64 e.ng).wf = true) (hn : n + 1 ≤ 1000000) (hwl : ∀ x, (Lit.int .i64 ((m.lst x).getD 0)).wf = true) (h : MdIs w B b n m m1 m2) (hr : rightJ e = true) (hk : e.k = 3) :
    Calls Try.prog 43 #[pA b, .agg (evA e)] w (DoPost w B b n m1 m2 (doF m e)) := by
  have hu0 := Try.underlying125
  have hu1 := Try.underlying34
  have hu2 := Try.underlying54
  have hu3 := Try.underlying122
  have hmf : ∀ (fn : Fn) (first cap : Array Value) (w : World), (Instr.makeFunc fn first cap).run Try.prog w = .ok (.func fn first cap) w := fun _ _ _ _ => rfl
  have HF := Aside0.mk (show doF m e = pointF m e by unfold doF; rw [if_neg (by rw [hr]; simp), if_neg (by omega), if_neg (by omega), if_pos hk])
  have k1 : (e.k == 1) = false := beq_eq_false_iff_ne.2 (by omega)
  have k4 : (e.k == 4) = false := beq_eq_false_iff_ne.2 (by omega)
  have k3 : (e.k == 3) = true := beq_iff_eq.2 (hk)
  have CR := Aside0.mk (fun W => right_run e W)
  rw [hr] at CR
  have HW := Aside0.mk hw
  have HN := Aside0.mk hn
  have HWL := Aside0.mk hwl
  have HJ := Aside0.mk (Dj.start h e)
  clear hw hn hwl h hr hk
  have hcx := fun i => blk_cell HJ.out.xb i
  have hce := fun i => blk_cell HJ.out.eb i
  have hlx := blk_lt HJ.out.xb
  have hle := blk_lt HJ.out.eb
  have hcm := fun i => HJ.out.md.cell i
  have hlm := HJ.out.md.lt
  go_enter Try.func43, Try.ntmps43
  go_wp2_with (first | (go_at_call 65; (with_reducible refine (CR.out _).mono ?_); rintro r w2 ⟨rfl, hb2⟩; have HJ2 := Aside0.mk (HJ.out.step hb2); clear hb2 hcx hce hlx hle hcm hlm; have HJ := HJ2; have hcx := fun i => blk_cell HJ.out.xb i; have hce := fun i => blk_cell HJ.out.eb i; have hlx := blk_lt HJ.out.xb; have hle := blk_lt HJ.out.eb; have hcm := fun i => HJ.out.md.cell i; have hlm := HJ.out.md.lt))
  obtain ⟨kl, hkl⟩ := keyH e.hn e.hg HW.out.1 HW.out.2.1
  refine start_ (n := 9) (S := (fun w' => (∀ i, w'.cell? ⟨b, i, none⟩ = (mdA m m1 m2)[i]?) ∧ (∀ i, w'.cell? ⟨w.heap.size, i, none⟩ = (#[pA b] : Array Value)[i]?) ∧ (∀ i, w'.cell? ⟨w.heap.size + 1, i, none⟩ = (evA e)[i]?) ∧ (Instr.lookup 123 (.map (some m1)) (haV e.h) false).run Try.prog w' = .ok (.agg #[.int .i64 (m.st e.h), .int .i64 (m.dl e.h)]) w')) (ds := [8]) #[false, false, false, false, false, false, false, false, false] (by kernel_rfl) rfl rfl ⟨HJ.out.drew.cells.1, HJ.out.drew.cells.2.1, HJ.out.drew.cells.2.2, HJ.out.drew.md.look hkl _ rfl⟩ (fun hHeld => ?_)
  refine with_tabW doR.tab3 doR.bits3 (fun HT_ HW_ => ?_)
  have HJ3 := Aside0.mk HJ.out.drew
  generalize World.drew _ = w3 at HJ3 hHeld ⊢
  clear HJ hcx hce hlx hle hcm hlm
  have hlx := blk_lt HJ3.out.xb
  have hle := blk_lt HJ3.out.eb
  have hlm := HJ3.out.md.lt
  refine pure_ (i := 4) (N := (some 14)) (v := ?_) (a' := ?_) #[false, false, false, false, true, false, false, false, false] rfl rfl (any_of HT_.out (by kernel_rfl)) (fun _ _ _ h => h) (Or.inl ⟨by rfl, ?_⟩) ?_ ?_
  rotate_left
  · intro w'
    go_simp
    with_reducible rfl
  rotate_left
  · simp only [Act.put, List.setIfInBounds_toArray, List.set_cons_zero, List.set_cons_succ, i64_w, i32_w]
    rfl
  refine take_ (i := 0) (N := (some 10)) (v := ?_) (a' := ?_) #[true, false, false, false, true, false, false, false, false] rfl rfl (take_ofW HT_.out HW_.out (by kernel_rfl)) (fun _ _ _ h => h) (Or.inl ⟨by rfl, ?_⟩) hHeld ?_ ?_
  rotate_left
  · rintro w' ⟨s0, s1, s2, s3⟩
    go_simp
    with_reducible rfl
  rotate_left
  · simp only [Act.put, List.setIfInBounds_toArray, List.set_cons_zero, List.set_cons_succ, i64_w, i32_w]
    rfl
  refine pure_ (i := 1) (N := (some 11)) (v := ?_) (a' := ?_) #[true, true, false, false, true, false, false, false, false] rfl rfl (any_of HT_.out (by kernel_rfl)) (fun _ _ _ h => h) (Or.inl ⟨by rfl, ?_⟩) ?_ ?_
  rotate_left
  · intro w'
    go_simp
    with_reducible rfl
  rotate_left
  · simp only [Act.put, List.setIfInBounds_toArray, List.set_cons_zero, List.set_cons_succ, i64_w, i32_w]
    rfl
  refine pure_ (i := 2) (N := (some 12)) (v := ?_) (a' := ?_) #[true, true, true, false, true, false, false, false, false] rfl rfl (any_of HT_.out (by kernel_rfl)) (fun _ _ _ h => h) (Or.inl ⟨by rfl, ?_⟩) ?_ ?_
  rotate_left
  · intro w'
    go_simp
    with_reducible rfl
  rotate_left
  · simp only [Act.put, List.setIfInBounds_toArray, List.set_cons_zero, List.set_cons_succ, i64_w, i32_w]
    rfl
  refine take_ (i := 3) (N := (some 13)) (v := ?_) (a' := ?_) #[true, true, true, true, true, false, false, false, false] rfl rfl (take_ofW HT_.out HW_.out (by kernel_rfl)) (fun _ _ _ h => h) (Or.inl ⟨by rfl, ?_⟩) hHeld ?_ ?_
  rotate_left
  · rintro w' ⟨s0, s1, s2, s3⟩
    go_simp
    with_reducible rfl
  rotate_left
  · simp only [Act.put, List.setIfInBounds_toArray, List.set_cons_zero, List.set_cons_succ, i64_w, i32_w]
    rfl
  refine take_ (i := 5) (N := (some 15)) (v := ?_) (a' := ?_) #[true, true, true, true, true, true, false, false, false] rfl rfl (take_ofW HT_.out HW_.out (by kernel_rfl)) (fun _ _ _ h => h) (Or.inl ⟨by rfl, ?_⟩) hHeld ?_ ?_
  rotate_left
  · rintro w' ⟨s0, s1, s2, s3⟩
    go_simp
    with_reducible rfl
  rotate_left
  · simp only [Act.put, List.setIfInBounds_toArray, List.set_cons_zero, List.set_cons_succ, i64_w, i32_w]
    rfl
  refine take_ (i := 6) (N := (some 16)) (v := ?_) (a' := ?_) #[true, true, true, true, true, true, true, false, false] rfl rfl (take_ofW HT_.out HW_.out (by kernel_rfl)) (fun _ _ _ h => h) (Or.inl ⟨by rfl, ?_⟩) hHeld ?_ ?_
  rotate_left
  · rintro w' ⟨s0, s1, s2, s3⟩
    go_simp
    with_reducible rfl
  rotate_left
  · simp only [Act.put, List.setIfInBounds_toArray, List.set_cons_zero, List.set_cons_succ, i64_w, i32_w]
    rfl
  refine one_ (i := 7) (N := (some 5)) #[true, true, true, true, true, true, true, true, false] rfl rfl (one_of HT_.out (by kernel_rfl)) (by decide) (fun K hK => ?_)
  refine value_ (by rfl) rfl (v := .pointer (some ⟨w3.heap.size, 0, none⟩)) (w1 := w3.alloc (.cells #[.int .i64 0, .int .i64 0] 122)) (by go_simp <;> rfl) ?_
  refine hK.out _ _ ⟨(HJ3.out.alloc _).cells.1, (HJ3.out.alloc _).cells.2.1, (HJ3.out.alloc _).cells.2.2, (HJ3.out.alloc _).md.look hkl _ rfl⟩ (fun hHeld => ?_)
  clear hK K
  refine norm_ (a' := ?_) ?_ ?_
  rotate_left
  · show Act.put _ (some 5) _ = _
    simp only [Act.put, List.setIfInBounds_toArray, List.set_cons_zero, List.set_cons_succ, i64_w, i32_w]
    rfl
  refine last_ (i := 8) (N := none) #[true, true, true, true, true, true, true, true, true] rfl rfl (one_of HT_.out (by kernel_rfl)) (by decide) (fun K hK => ?_)
  refine skip_ (by rfl) rfl (w1 := w3.alloc (.cells #[.int .i64 (m.st e.h), .int .i64 (m.dl e.h)] 122)) (by go_simp <;> rfl) ?_
  refine hK.out _ _ ?_
  clear hK K
  refine done_ (done_of HT_.out (by kernel_rfl)) ?_
  clear hHeld
  have hcx := fun i => blk_cell (HJ3.out.alloc (.cells #[.int .i64 (m.st e.h), .int .i64 (m.dl e.h)] 122)).xb i
  have hce := fun i => blk_cell (HJ3.out.alloc (.cells #[.int .i64 (m.st e.h), .int .i64 (m.dl e.h)] 122)).eb i
  have hcm := fun i => (HJ3.out.alloc (.cells #[.int .i64 (m.st e.h), .int .i64 (m.dl e.h)] 122)).md.cell i
  have HK := Aside0.mk (show Dk w (w3.alloc (.cells #[.int .i64 (m.st e.h), .int .i64 (m.dl e.h)] 122)) B b n m1 m2 m e w3.heap.size from ⟨HJ3.out.alloc _, blk_new _ _⟩)
  clear hkl
  have CP : Aside0 (∀ W, Dk w W B b n m1 m2 m e w3.heap.size → Calls Try.prog 76 #[pA b, .agg (evA e), .bool (m.st e.h == 1)] W (DoPost W B b n m1 m2 (pointF m e))) := ⟨fun W hW => point_any e HW.out HN.out HWL.out hW.dj.md⟩
  go_wp2_with (go_at_call 76; (with_reducible refine (CP.out _ HK.out).mono ?_); rintro r w4 ⟨rfl, hm, hf⟩; have HM := Aside0.mk (And.intro hm (HK.out.dj.fr.trans hf)); clear hm hf)
  go_ret
  exact DoPost.of HF.out rfl HM.out.1 HM.out.2

set_option maxHeartbeats 4000000 in
set_option maxRecDepth 100000 in
theorem do_tick {w : World} {B b n m1 m2 : Nat} {m : Md} (e : Ev) (hw : (Lit.int .i64 e.hn).wf = true ∧ (Lit.int .i64 e.hg).wf = true ∧ (Lit.int .i64 e.nn).wf = true ∧ (Lit.int .i64 e.ng).wf = true) (hn : n + 1 ≤ 1000000) (hwl : ∀ x, (Lit.int .i64 ((m.lst x).getD 0)).wf = true) (h : MdIs w B b n m m1 m2) (hr : rightJ e = true) (hk : e.k = 1) :
    Calls Try.prog 43 #[pA b, .agg (evA e)] w (DoPost w B b n m1 m2 (doF m e)) := by
  have hu0 := Try.underlying125
  have hu1 := Try.underlying34
  have hu2 := Try.underlying54
  have hu3 := Try.underlying122
  have hmf : ∀ (fn : Fn) (first cap : Array Value) (w : World), (Instr.makeFunc fn first cap).run Try.prog w = .ok (.func fn first cap) w := fun _ _ _ _ => rfl
  have HF := Aside0.mk (show doF m e = unF (e.t == wrap64 (m.clk + 1)) { m with clk := e.t } m by unfold doF; rw [if_neg (by rw [hr]; simp), if_pos hk]; unfold unF; by_cases ht : e.t = wrap64 (m.clk + 1) <;> simp [ht])
  have k1 : (e.k == 1) = true := beq_iff_eq.2 (hk)
  have k4 : (e.k == 4) = false := beq_eq_false_iff_ne.2 (by omega)
  have k3 : (e.k == 3) = false := beq_eq_false_iff_ne.2 (by omega)
  have CR := Aside0.mk (fun W => right_run e W)
  rw [hr] at CR
  have HW := Aside0.mk hw
  have HN := Aside0.mk hn
  have HWL := Aside0.mk hwl
  have HJ := Aside0.mk (Dj.start h e)
  clear hw hn hwl h hr hk
  have hcx := fun i => blk_cell HJ.out.xb i
  have hce := fun i => blk_cell HJ.out.eb i
  have hlx := blk_lt HJ.out.xb
  have hle := blk_lt HJ.out.eb
  have hcm := fun i => HJ.out.md.cell i
  have hlm := HJ.out.md.lt
  go_enter Try.func43, Try.ntmps43
  go_wp2_with (first | (go_at_call 65; (with_reducible refine (CR.out _).mono ?_); rintro r w2 ⟨rfl, hb2⟩; have HJ2 := Aside0.mk (HJ.out.step hb2); clear hb2 hcx hce hlx hle hcm hlm; have HJ := HJ2; have hcx := fun i => blk_cell HJ.out.xb i; have hce := fun i => blk_cell HJ.out.eb i; have hlx := blk_lt HJ.out.xb; have hle := blk_lt HJ.out.eb; have hcm := fun i => HJ.out.md.cell i; have hlm := HJ.out.md.lt))
  obtain ⟨kl, hkl⟩ := keyH e.hn e.hg HW.out.1 HW.out.2.1
  refine start_ (n := 9) (S := (fun w' => (∀ i, w'.cell? ⟨b, i, none⟩ = (mdA m m1 m2)[i]?) ∧ (∀ i, w'.cell? ⟨w.heap.size, i, none⟩ = (#[pA b] : Array Value)[i]?) ∧ (∀ i, w'.cell? ⟨w.heap.size + 1, i, none⟩ = (evA e)[i]?) ∧ (Instr.lookup 123 (.map (some m1)) (haV e.h) false).run Try.prog w' = .ok (.agg #[.int .i64 (m.st e.h), .int .i64 (m.dl e.h)]) w')) (ds := [8]) #[false, false, false, false, false, false, false, false, false] (by kernel_rfl) rfl rfl ⟨HJ.out.drew.cells.1, HJ.out.drew.cells.2.1, HJ.out.drew.cells.2.2, HJ.out.drew.md.look hkl _ rfl⟩ (fun hHeld => ?_)
  refine with_tabW doR.tab3 doR.bits3 (fun HT_ HW_ => ?_)
  have HJ3 := Aside0.mk HJ.out.drew
  generalize World.drew _ = w3 at HJ3 hHeld ⊢
  clear HJ hcx hce hlx hle hcm hlm
  have hlx := blk_lt HJ3.out.xb
  have hle := blk_lt HJ3.out.eb
  have hlm := HJ3.out.md.lt
  refine pure_ (i := 4) (N := (some 14)) (v := ?_) (a' := ?_) #[false, false, false, false, true, false, false, false, false] rfl rfl (any_of HT_.out (by kernel_rfl)) (fun _ _ _ h => h) (Or.inl ⟨by rfl, ?_⟩) ?_ ?_
  rotate_left
  · intro w'
    go_simp
    with_reducible rfl
  rotate_left
  · simp only [Act.put, List.setIfInBounds_toArray, List.set_cons_zero, List.set_cons_succ, i64_w, i32_w]
    rfl
  refine take_ (i := 0) (N := (some 10)) (v := ?_) (a' := ?_) #[true, false, false, false, true, false, false, false, false] rfl rfl (take_ofW HT_.out HW_.out (by kernel_rfl)) (fun _ _ _ h => h) (Or.inl ⟨by rfl, ?_⟩) hHeld ?_ ?_
  rotate_left
  · rintro w' ⟨s0, s1, s2, s3⟩
    go_simp
    with_reducible rfl
  rotate_left
  · simp only [Act.put, List.setIfInBounds_toArray, List.set_cons_zero, List.set_cons_succ, i64_w, i32_w]
    rfl
  refine pure_ (i := 1) (N := (some 11)) (v := ?_) (a' := ?_) #[true, true, false, false, true, false, false, false, false] rfl rfl (any_of HT_.out (by kernel_rfl)) (fun _ _ _ h => h) (Or.inl ⟨by rfl, ?_⟩) ?_ ?_
  rotate_left
  · intro w'
    go_simp
    with_reducible rfl
  rotate_left
  · simp only [Act.put, List.setIfInBounds_toArray, List.set_cons_zero, List.set_cons_succ, i64_w, i32_w]
    rfl
  refine pure_ (i := 2) (N := (some 12)) (v := ?_) (a' := ?_) #[true, true, true, false, true, false, false, false, false] rfl rfl (any_of HT_.out (by kernel_rfl)) (fun _ _ _ h => h) (Or.inl ⟨by rfl, ?_⟩) ?_ ?_
  rotate_left
  · intro w'
    go_simp
    with_reducible rfl
  rotate_left
  · simp only [Act.put, List.setIfInBounds_toArray, List.set_cons_zero, List.set_cons_succ, i64_w, i32_w]
    rfl
  refine take_ (i := 3) (N := (some 13)) (v := ?_) (a' := ?_) #[true, true, true, true, true, false, false, false, false] rfl rfl (take_ofW HT_.out HW_.out (by kernel_rfl)) (fun _ _ _ h => h) (Or.inl ⟨by rfl, ?_⟩) hHeld ?_ ?_
  rotate_left
  · rintro w' ⟨s0, s1, s2, s3⟩
    go_simp
    with_reducible rfl
  rotate_left
  · simp only [Act.put, List.setIfInBounds_toArray, List.set_cons_zero, List.set_cons_succ, i64_w, i32_w]
    rfl
  refine take_ (i := 5) (N := (some 15)) (v := ?_) (a' := ?_) #[true, true, true, true, true, true, false, false, false] rfl rfl (take_ofW HT_.out HW_.out (by kernel_rfl)) (fun _ _ _ h => h) (Or.inl ⟨by rfl, ?_⟩) hHeld ?_ ?_
  rotate_left
  · rintro w' ⟨s0, s1, s2, s3⟩
    go_simp
    with_reducible rfl
  rotate_left
  · simp only [Act.put, List.setIfInBounds_toArray, List.set_cons_zero, List.set_cons_succ, i64_w, i32_w]
    rfl
  refine take_ (i := 6) (N := (some 16)) (v := ?_) (a' := ?_) #[true, true, true, true, true, true, true, false, false] rfl rfl (take_ofW HT_.out HW_.out (by kernel_rfl)) (fun _ _ _ h => h) (Or.inl ⟨by rfl, ?_⟩) hHeld ?_ ?_
  rotate_left
  · rintro w' ⟨s0, s1, s2, s3⟩
    go_simp
    with_reducible rfl
  rotate_left
  · simp only [Act.put, List.setIfInBounds_toArray, List.set_cons_zero, List.set_cons_succ, i64_w, i32_w]
    rfl
  refine one_ (i := 7) (N := (some 5)) #[true, true, true, true, true, true, true, true, false] rfl rfl (one_of HT_.out (by kernel_rfl)) (by decide) (fun K hK => ?_)
  refine value_ (by rfl) rfl (v := .pointer (some ⟨w3.heap.size, 0, none⟩)) (w1 := w3.alloc (.cells #[.int .i64 0, .int .i64 0] 122)) (by go_simp <;> rfl) ?_
  refine hK.out _ _ ⟨(HJ3.out.alloc _).cells.1, (HJ3.out.alloc _).cells.2.1, (HJ3.out.alloc _).cells.2.2, (HJ3.out.alloc _).md.look hkl _ rfl⟩ (fun hHeld => ?_)
  clear hK K
  refine norm_ (a' := ?_) ?_ ?_
  rotate_left
  · show Act.put _ (some 5) _ = _
    simp only [Act.put, List.setIfInBounds_toArray, List.set_cons_zero, List.set_cons_succ, i64_w, i32_w]
    rfl
  refine last_ (i := 8) (N := none) #[true, true, true, true, true, true, true, true, true] rfl rfl (one_of HT_.out (by kernel_rfl)) (by decide) (fun K hK => ?_)
  refine skip_ (by rfl) rfl (w1 := w3.alloc (.cells #[.int .i64 (m.st e.h), .int .i64 (m.dl e.h)] 122)) (by go_simp <;> rfl) ?_
  refine hK.out _ _ ?_
  clear hK K
  refine done_ (done_of HT_.out (by kernel_rfl)) ?_
  clear hHeld
  have hcx := fun i => blk_cell (HJ3.out.alloc (.cells #[.int .i64 (m.st e.h), .int .i64 (m.dl e.h)] 122)).xb i
  have hce := fun i => blk_cell (HJ3.out.alloc (.cells #[.int .i64 (m.st e.h), .int .i64 (m.dl e.h)] 122)).eb i
  have hcm := fun i => (HJ3.out.alloc (.cells #[.int .i64 (m.st e.h), .int .i64 (m.dl e.h)] 122)).md.cell i
  have HK := Aside0.mk (show Dk w (w3.alloc (.cells #[.int .i64 (m.st e.h), .int .i64 (m.dl e.h)] 122)) B b n m1 m2 m e w3.heap.size from ⟨HJ3.out.alloc _, blk_new _ _⟩)
  clear hkl
  go_upto_region 7 with (fail)
  refine gen_world' (fun W => Dk w W B b n m1 m2 m e w3.heap.size) (by exact HK.out) fun w4 HK4 => ?_
  obtain ⟨fb, hfb⟩ : ∃ fb, w3.heap.size = fb := ⟨_, rfl⟩
  rw [hfb] at HK4 ⊢
  have HK5 := Aside0.mk HK4.drew
  clear HK hfb HK4 hcx hce hlx hle hcm hlm
  refine start_ (n := 11) (S := (fun w' => (∀ i, w'.cell? ⟨b, i, none⟩ = (mdA m m1 m2)[i]?) ∧ (∀ i, w'.cell? ⟨w.heap.size, i, none⟩ = (#[pA b] : Array Value)[i]?) ∧ (∀ i, w'.cell? ⟨w.heap.size + 1, i, none⟩ = (evA e)[i]?) ∧ (∀ i, w'.cell? ⟨fb, i, none⟩ = (#[.int .i64 (m.st e.h), .int .i64 (m.dl e.h)] : Array Value)[i]?))) (ds := [9]) #[false, false, false, false, false, false, false, false, false, false, false] (by kernel_rfl) rfl rfl HK5.out.cells (fun hHeld => ?_)
  refine with_tabW doR.tab7 doR.bits7 (fun HT_ HW_ => ?_)
  have HK6 := HK5
  generalize w4.drew = w5 at HK5 HK6 hHeld ⊢
  clear HK5
  have hlm := HK6.out.dj.md.lt
  have hlx := blk_lt HK6.out.dj.xb
  have hle := blk_lt HK6.out.dj.eb
  have hlf := blk_lt HK6.out.fb
  refine pure_ (i := 0) (N := (some 24)) (v := ?_) (a' := ?_) #[true, false, false, false, false, false, false, false, false, false, false] rfl rfl (any_of HT_.out (by kernel_rfl)) (fun _ _ _ h => h) (Or.inl ⟨by rfl, ?_⟩) ?_ ?_
  rotate_left
  · intro w'
    go_simp
    with_reducible rfl
  rotate_left
  · simp only [Act.put, List.setIfInBounds_toArray, List.set_cons_zero, List.set_cons_succ, i64_w, i32_w]
    rfl
  refine pure_ (i := 8) (N := (some 32)) (v := ?_) (a' := ?_) #[true, false, false, false, false, false, false, false, true, false, false] rfl rfl (any_of HT_.out (by kernel_rfl)) (fun _ _ _ h => h) (Or.inl ⟨by rfl, ?_⟩) ?_ ?_
  rotate_left
  · intro w'
    go_simp
    with_reducible rfl
  rotate_left
  · simp only [Act.put, List.setIfInBounds_toArray, List.set_cons_zero, List.set_cons_succ, i64_w, i32_w]
    rfl
  refine take_ (i := 1) (N := (some 25)) (v := ?_) (a' := ?_) #[true, true, false, false, false, false, false, false, true, false, false] rfl rfl (take_ofW HT_.out HW_.out (by kernel_rfl)) (fun _ _ _ h => h) (Or.inl ⟨by rfl, ?_⟩) hHeld ?_ ?_
  rotate_left
  · rintro w' ⟨s0, s1, s2, s3⟩
    go_simp
    with_reducible rfl
  rotate_left
  · simp only [Act.put, List.setIfInBounds_toArray, List.set_cons_zero, List.set_cons_succ, i64_w, i32_w]
    rfl
  refine take_ (i := 2) (N := (some 26)) (v := ?_) (a' := ?_) #[true, true, true, false, false, false, false, false, true, false, false] rfl rfl (take_ofW HT_.out HW_.out (by kernel_rfl)) (fun _ _ _ h => h) (Or.inl ⟨by rfl, ?_⟩) hHeld ?_ ?_
  rotate_left
  · rintro w' ⟨s0, s1, s2, s3⟩
    go_simp
    with_reducible rfl
  rotate_left
  · simp only [Act.put, List.setIfInBounds_toArray, List.set_cons_zero, List.set_cons_succ, i64_w, i32_w]
    rfl
  refine pure_ (i := 3) (N := (some 27)) (v := ?_) (a' := ?_) #[true, true, true, true, false, false, false, false, true, false, false] rfl rfl (any_of HT_.out (by kernel_rfl)) (fun _ _ _ h => h) (Or.inl ⟨by rfl, ?_⟩) ?_ ?_
  rotate_left
  · intro w'
    go_simp
    with_reducible rfl
  rotate_left
  · simp only [Act.put, List.setIfInBounds_toArray, List.set_cons_zero, List.set_cons_succ, i64_w, i32_w]
    rfl
  refine pure_ (i := 4) (N := (some 28)) (v := ?_) (a' := ?_) #[true, true, true, true, true, false, false, false, true, false, false] rfl rfl (any_of HT_.out (by kernel_rfl)) (fun _ _ _ h => h) (Or.inl ⟨by rfl, ?_⟩) ?_ ?_
  rotate_left
  · intro w'
    go_simp
    with_reducible rfl
  rotate_left
  · simp only [Act.put, List.setIfInBounds_toArray, List.set_cons_zero, List.set_cons_succ, i64_w, i32_w]
    rfl
  refine take_ (i := 5) (N := (some 29)) (v := ?_) (a' := ?_) #[true, true, true, true, true, true, false, false, true, false, false] rfl rfl (take_ofW HT_.out HW_.out (by kernel_rfl)) (fun _ _ _ h => h) (Or.inl ⟨by rfl, ?_⟩) hHeld ?_ ?_
  rotate_left
  · rintro w' ⟨s0, s1, s2, s3⟩
    go_simp
    with_reducible rfl
  rotate_left
  · simp only [Act.put, List.setIfInBounds_toArray, List.set_cons_zero, List.set_cons_succ, i64_w, i32_w]
    rfl
  refine pure_ (i := 6) (N := (some 30)) (v := ?_) (a' := ?_) #[true, true, true, true, true, true, true, false, true, false, false] rfl rfl (any_of HT_.out (by kernel_rfl)) (fun _ _ _ h => h) (Or.inl ⟨by rfl, ?_⟩) ?_ ?_
  rotate_left
  · intro w'
    go_simp
    with_reducible rfl
  rotate_left
  · simp only [Act.put, List.setIfInBounds_toArray, List.set_cons_zero, List.set_cons_succ, i64_w, i32_w]
    rfl
  refine pure_ (i := 7) (N := (some 31)) (v := ?_) (a' := ?_) #[true, true, true, true, true, true, true, true, true, false, false] rfl rfl (any_of HT_.out (by kernel_rfl)) (fun _ _ _ h => h) (Or.inl ⟨by rfl, ?_⟩) ?_ ?_
  rotate_left
  · intro w'
    go_simp
    with_reducible rfl
  rotate_left
  · simp only [Act.put, List.setIfInBounds_toArray, List.set_cons_zero, List.set_cons_succ, i64_w, i32_w]
    rfl
  refine last_ (i := 9) (N := (some 33)) #[true, true, true, true, true, true, true, true, true, true, false] rfl rfl (one_of HT_.out (by kernel_rfl)) (by decide) (fun K hK => ?_)
  refine call_ (f := 73) #[.bool (e.t == wrap64 (m.clk + 1)), .func (.func 74) #[] #[pA (w.heap.size + 1), pA w.heap.size]] (by rfl) rfl (by go_simp <;> rfl) ?_
  refine (un_tick (e.t == wrap64 (m.clk + 1)) HK6.out.dj.md HK6.out.dj.eb HK6.out.dj.xb).mono ?_
  rintro r w6 ⟨rfl, hm, hf⟩
  refine ⟨_, rfl, ?_⟩
  have HM := Aside0.mk (And.intro hm (HK6.out.dj.fr.trans hf))
  clear hm hf
  refine hK.out _ _ ?_
  clear hK K
  refine norm_ (a' := ?_) ?_ ?_
  rotate_left
  · show Act.put _ (some 33) _ = _
    simp only [Act.put, List.setIfInBounds_toArray, List.set_cons_zero, List.set_cons_succ, i64_w, i32_w]
    rfl
  refine pure_ (i := 10) (N := (some 4)) (v := ?_) (a' := ?_) #[true, true, true, true, true, true, true, true, true, true, true] rfl rfl (any_of HT_.out (by kernel_rfl)) (fun _ _ _ h => h) (Or.inl ⟨by rfl, ?_⟩) ?_ ?_
  rotate_left
  · intro w'
    go_simp
    with_reducible rfl
  rotate_left
  · simp only [Act.put, List.setIfInBounds_toArray, List.set_cons_zero, List.set_cons_succ, i64_w, i32_w]
    rfl
  refine done_ (done_of HT_.out (by kernel_rfl)) ?_
  go_wp2
  go_ret
  exact DoPost.of HF.out rfl HM.out.1 HM.out.2

set_option maxHeartbeats 4000000 in
set_option maxRecDepth 100000 in
theorem do_fire_no {w : World} {B b n m1 m2 : Nat} {m : Md} (e : Ev) (hw : (Lit.int .i64 e.hn).wf = true ∧ (Lit.int .i64 e.hg).wf = true ∧ (Lit.int .i64 e.nn).wf = true ∧ (Lit.int .i64 e.ng).wf = true) (hn : n + 1 ≤ 1000000) (hwl : ∀ x, (Lit.int .i64 ((m.lst x).getD 0)).wf = true) (h : MdIs w B b n m m1 m2) (hr : rightJ e = true) (hk : e.k = 4) (ha : ¬ m.st e.h = 1) :
    Calls Try.prog 43 #[pA b, .agg (evA e)] w (DoPost w B b n m1 m2 (doF m e)) := by
  have hu0 := Try.underlying125
  have hu1 := Try.underlying34
  have hu2 := Try.underlying54
  have hu3 := Try.underlying122
  have hmf : ∀ (fn : Fn) (first cap : Array Value) (w : World), (Instr.makeFunc fn first cap).run Try.prog w = .ok (.func fn first cap) w := fun _ _ _ _ => rfl
  have HF := Aside0.mk (show doF m e = unF false (m.end_ e.h 2) m by unfold doF; rw [if_neg (by rw [hr]; simp), if_neg (by omega), if_pos hk]; rw [if_neg (fun q => ha q.1)]; rfl)
  have k1 : (e.k == 1) = false := beq_eq_false_iff_ne.2 (by omega)
  have k4 : (e.k == 4) = true := beq_iff_eq.2 (hk)
  have k3 : (e.k == 3) = false := beq_eq_false_iff_ne.2 (by omega)
  have a1 : ((m.st e.h) == 1) = false := beq_eq_false_iff_ne.2 (ha)
  have CR := Aside0.mk (fun W => right_run e W)
  rw [hr] at CR
  have HW := Aside0.mk hw
  have HN := Aside0.mk hn
  have HWL := Aside0.mk hwl
  have HJ := Aside0.mk (Dj.start h e)
  clear hw hn hwl h hr hk ha
  have hcx := fun i => blk_cell HJ.out.xb i
  have hce := fun i => blk_cell HJ.out.eb i
  have hlx := blk_lt HJ.out.xb
  have hle := blk_lt HJ.out.eb
  have hcm := fun i => HJ.out.md.cell i
  have hlm := HJ.out.md.lt
  go_enter Try.func43, Try.ntmps43
  go_wp2_with (first | (go_at_call 65; (with_reducible refine (CR.out _).mono ?_); rintro r w2 ⟨rfl, hb2⟩; have HJ2 := Aside0.mk (HJ.out.step hb2); clear hb2 hcx hce hlx hle hcm hlm; have HJ := HJ2; have hcx := fun i => blk_cell HJ.out.xb i; have hce := fun i => blk_cell HJ.out.eb i; have hlx := blk_lt HJ.out.xb; have hle := blk_lt HJ.out.eb; have hcm := fun i => HJ.out.md.cell i; have hlm := HJ.out.md.lt))
  obtain ⟨kl, hkl⟩ := keyH e.hn e.hg HW.out.1 HW.out.2.1
  refine start_ (n := 9) (S := (fun w' => (∀ i, w'.cell? ⟨b, i, none⟩ = (mdA m m1 m2)[i]?) ∧ (∀ i, w'.cell? ⟨w.heap.size, i, none⟩ = (#[pA b] : Array Value)[i]?) ∧ (∀ i, w'.cell? ⟨w.heap.size + 1, i, none⟩ = (evA e)[i]?) ∧ (Instr.lookup 123 (.map (some m1)) (haV e.h) false).run Try.prog w' = .ok (.agg #[.int .i64 (m.st e.h), .int .i64 (m.dl e.h)]) w')) (ds := [8]) #[false, false, false, false, false, false, false, false, false] (by kernel_rfl) rfl rfl ⟨HJ.out.drew.cells.1, HJ.out.drew.cells.2.1, HJ.out.drew.cells.2.2, HJ.out.drew.md.look hkl _ rfl⟩ (fun hHeld => ?_)
  refine with_tabW doR.tab3 doR.bits3 (fun HT_ HW_ => ?_)
  have HJ3 := Aside0.mk HJ.out.drew
  generalize World.drew _ = w3 at HJ3 hHeld ⊢
  clear HJ hcx hce hlx hle hcm hlm
  have hlx := blk_lt HJ3.out.xb
  have hle := blk_lt HJ3.out.eb
  have hlm := HJ3.out.md.lt
  refine pure_ (i := 4) (N := (some 14)) (v := ?_) (a' := ?_) #[false, false, false, false, true, false, false, false, false] rfl rfl (any_of HT_.out (by kernel_rfl)) (fun _ _ _ h => h) (Or.inl ⟨by rfl, ?_⟩) ?_ ?_
  rotate_left
  · intro w'
    go_simp
    with_reducible rfl
  rotate_left
  · simp only [Act.put, List.setIfInBounds_toArray, List.set_cons_zero, List.set_cons_succ, i64_w, i32_w]
    rfl
  refine take_ (i := 0) (N := (some 10)) (v := ?_) (a' := ?_) #[true, false, false, false, true, false, false, false, false] rfl rfl (take_ofW HT_.out HW_.out (by kernel_rfl)) (fun _ _ _ h => h) (Or.inl ⟨by rfl, ?_⟩) hHeld ?_ ?_
  rotate_left
  · rintro w' ⟨s0, s1, s2, s3⟩
    go_simp
    with_reducible rfl
  rotate_left
  · simp only [Act.put, List.setIfInBounds_toArray, List.set_cons_zero, List.set_cons_succ, i64_w, i32_w]
    rfl
  refine pure_ (i := 1) (N := (some 11)) (v := ?_) (a' := ?_) #[true, true, false, false, true, false, false, false, false] rfl rfl (any_of HT_.out (by kernel_rfl)) (fun _ _ _ h => h) (Or.inl ⟨by rfl, ?_⟩) ?_ ?_
  rotate_left
  · intro w'
    go_simp
    with_reducible rfl
  rotate_left
  · simp only [Act.put, List.setIfInBounds_toArray, List.set_cons_zero, List.set_cons_succ, i64_w, i32_w]
    rfl
  refine pure_ (i := 2) (N := (some 12)) (v := ?_) (a' := ?_) #[true, true, true, false, true, false, false, false, false] rfl rfl (any_of HT_.out (by kernel_rfl)) (fun _ _ _ h => h) (Or.inl ⟨by rfl, ?_⟩) ?_ ?_
  rotate_left
  · intro w'
    go_simp
    with_reducible rfl
  rotate_left
  · simp only [Act.put, List.setIfInBounds_toArray, List.set_cons_zero, List.set_cons_succ, i64_w, i32_w]
    rfl
  refine take_ (i := 3) (N := (some 13)) (v := ?_) (a' := ?_) #[true, true, true, true, true, false, false, false, false] rfl rfl (take_ofW HT_.out HW_.out (by kernel_rfl)) (fun _ _ _ h => h) (Or.inl ⟨by rfl, ?_⟩) hHeld ?_ ?_
  rotate_left
  · rintro w' ⟨s0, s1, s2, s3⟩
    go_simp
    with_reducible rfl
  rotate_left
  · simp only [Act.put, List.setIfInBounds_toArray, List.set_cons_zero, List.set_cons_succ, i64_w, i32_w]
    rfl
  refine take_ (i := 5) (N := (some 15)) (v := ?_) (a' := ?_) #[true, true, true, true, true, true, false, false, false] rfl rfl (take_ofW HT_.out HW_.out (by kernel_rfl)) (fun _ _ _ h => h) (Or.inl ⟨by rfl, ?_⟩) hHeld ?_ ?_
  rotate_left
  · rintro w' ⟨s0, s1, s2, s3⟩
    go_simp
    with_reducible rfl
  rotate_left
  · simp only [Act.put, List.setIfInBounds_toArray, List.set_cons_zero, List.set_cons_succ, i64_w, i32_w]
    rfl
  refine take_ (i := 6) (N := (some 16)) (v := ?_) (a' := ?_) #[true, true, true, true, true, true, true, false, false] rfl rfl (take_ofW HT_.out HW_.out (by kernel_rfl)) (fun _ _ _ h => h) (Or.inl ⟨by rfl, ?_⟩) hHeld ?_ ?_
  rotate_left
  · rintro w' ⟨s0, s1, s2, s3⟩
    go_simp
    with_reducible rfl
  rotate_left
  · simp only [Act.put, List.setIfInBounds_toArray, List.set_cons_zero, List.set_cons_succ, i64_w, i32_w]
    rfl
  refine one_ (i := 7) (N := (some 5)) #[true, true, true, true, true, true, true, true, false] rfl rfl (one_of HT_.out (by kernel_rfl)) (by decide) (fun K hK => ?_)
  refine value_ (by rfl) rfl (v := .pointer (some ⟨w3.heap.size, 0, none⟩)) (w1 := w3.alloc (.cells #[.int .i64 0, .int .i64 0] 122)) (by go_simp <;> rfl) ?_
  refine hK.out _ _ ⟨(HJ3.out.alloc _).cells.1, (HJ3.out.alloc _).cells.2.1, (HJ3.out.alloc _).cells.2.2, (HJ3.out.alloc _).md.look hkl _ rfl⟩ (fun hHeld => ?_)
  clear hK K
  refine norm_ (a' := ?_) ?_ ?_
  rotate_left
  · show Act.put _ (some 5) _ = _
    simp only [Act.put, List.setIfInBounds_toArray, List.set_cons_zero, List.set_cons_succ, i64_w, i32_w]
    rfl
  refine last_ (i := 8) (N := none) #[true, true, true, true, true, true, true, true, true] rfl rfl (one_of HT_.out (by kernel_rfl)) (by decide) (fun K hK => ?_)
  refine skip_ (by rfl) rfl (w1 := w3.alloc (.cells #[.int .i64 (m.st e.h), .int .i64 (m.dl e.h)] 122)) (by go_simp <;> rfl) ?_
  refine hK.out _ _ ?_
  clear hK K
  refine done_ (done_of HT_.out (by kernel_rfl)) ?_
  clear hHeld
  have hcx := fun i => blk_cell (HJ3.out.alloc (.cells #[.int .i64 (m.st e.h), .int .i64 (m.dl e.h)] 122)).xb i
  have hce := fun i => blk_cell (HJ3.out.alloc (.cells #[.int .i64 (m.st e.h), .int .i64 (m.dl e.h)] 122)).eb i
  have hcm := fun i => (HJ3.out.alloc (.cells #[.int .i64 (m.st e.h), .int .i64 (m.dl e.h)] 122)).md.cell i
  have HK := Aside0.mk (show Dk w (w3.alloc (.cells #[.int .i64 (m.st e.h), .int .i64 (m.dl e.h)] 122)) B b n m1 m2 m e w3.heap.size from ⟨HJ3.out.alloc _, blk_new _ _⟩)
  clear hkl
  go_upto_region 9 with (fail)
  refine gen_world' (fun W => Dk w W B b n m1 m2 m e w3.heap.size) (by exact HK.out) fun w4 HK4 => ?_
  obtain ⟨fb, hfb⟩ : ∃ fb, w3.heap.size = fb := ⟨_, rfl⟩
  rw [hfb] at HK4 ⊢
  have HK5 := Aside0.mk HK4.drew
  clear HK hfb HK4 hcx hce hlx hle hcm hlm
  refine start_ (n := 23) (S := (fun w' => (∀ i, w'.cell? ⟨b, i, none⟩ = (mdA m m1 m2)[i]?) ∧ (∀ i, w'.cell? ⟨w.heap.size, i, none⟩ = (#[pA b] : Array Value)[i]?) ∧ (∀ i, w'.cell? ⟨w.heap.size + 1, i, none⟩ = (evA e)[i]?) ∧ (∀ i, w'.cell? ⟨fb, i, none⟩ = (#[.int .i64 (m.st e.h), .int .i64 (m.dl e.h)] : Array Value)[i]?))) (ds := [21]) #[false, false, false, false, false, false, false, false, false, false, false, false, false, false, false, false, false, false, false, false, false, false, false] (by kernel_rfl) rfl rfl HK5.out.cells (fun hHeld => ?_)
  refine with_tabW doR.tab9 doR.bits9 (fun HT_ HW_ => ?_)
  have HK6 := HK5
  generalize w4.drew = w5 at HK5 HK6 hHeld ⊢
  clear HK5
  have hlm := HK6.out.dj.md.lt
  have hlx := blk_lt HK6.out.dj.xb
  have hle := blk_lt HK6.out.dj.eb
  have hlf := blk_lt HK6.out.fb
  refine pure_ (i := 0) (N := (some 36)) (v := ?_) (a' := ?_) #[true, false, false, false, false, false, false, false, false, false, false, false, false, false, false, false, false, false, false, false, false, false, false] rfl rfl (any_of HT_.out (by kernel_rfl)) (fun _ _ _ h => h) (Or.inl ⟨by rfl, ?_⟩) ?_ ?_
  rotate_left
  · intro w'
    go_simp
    with_reducible rfl
  rotate_left
  · simp only [Act.put, List.setIfInBounds_toArray, List.set_cons_zero, List.set_cons_succ, i64_w, i32_w]
    rfl
  refine pure_ (i := 1) (N := (some 37)) (v := ?_) (a' := ?_) #[true, true, false, false, false, false, false, false, false, false, false, false, false, false, false, false, false, false, false, false, false, false, false] rfl rfl (any_of HT_.out (by kernel_rfl)) (fun _ _ _ h => h) (Or.inl ⟨by rfl, ?_⟩) ?_ ?_
  rotate_left
  · intro w'
    go_simp
    with_reducible rfl
  rotate_left
  · simp only [Act.put, List.setIfInBounds_toArray, List.set_cons_zero, List.set_cons_succ, i64_w, i32_w]
    rfl
  refine pure_ (i := 2) (N := (some 38)) (v := undef) (a' := ?_) #[true, true, true, false, false, false, false, false, false, false, false, false, false, false, false, false, false, false, false, false, false, false, false] rfl rfl (any_of HT_.out (by kernel_rfl)) (fun _ _ _ h => h) (Or.inr ⟨by rfl, rfl⟩) ?_ ?_
  rotate_left
  · simp only [Act.put, List.setIfInBounds_toArray, List.set_cons_zero, List.set_cons_succ, i64_w, i32_w]
    rfl
  refine pure_ (i := 3) (N := (some 39)) (v := undef) (a' := ?_) #[true, true, true, true, false, false, false, false, false, false, false, false, false, false, false, false, false, false, false, false, false, false, false] rfl rfl (any_of HT_.out (by kernel_rfl)) (fun _ _ _ h => h) (Or.inr ⟨by rfl, rfl⟩) ?_ ?_
  rotate_left
  · simp only [Act.put, List.setIfInBounds_toArray, List.set_cons_zero, List.set_cons_succ, i64_w, i32_w]
    rfl
  refine pure_ (i := 4) (N := (some 40)) (v := undef) (a' := ?_) #[true, true, true, true, true, false, false, false, false, false, false, false, false, false, false, false, false, false, false, false, false, false, false] rfl rfl (any_of HT_.out (by kernel_rfl)) (fun _ _ _ h => h) (Or.inr ⟨by rfl, rfl⟩) ?_ ?_
  rotate_left
  · simp only [Act.put, List.setIfInBounds_toArray, List.set_cons_zero, List.set_cons_succ, i64_w, i32_w]
    rfl
  refine pure_ (i := 5) (N := (some 41)) (v := undef) (a' := ?_) #[true, true, true, true, true, true, false, false, false, false, false, false, false, false, false, false, false, false, false, false, false, false, false] rfl rfl (any_of HT_.out (by kernel_rfl)) (fun _ _ _ h => h) (Or.inr ⟨by rfl, rfl⟩) ?_ ?_
  rotate_left
  · simp only [Act.put, List.setIfInBounds_toArray, List.set_cons_zero, List.set_cons_succ, i64_w, i32_w]
    rfl
  refine pure_ (i := 6) (N := (some 42)) (v := undef) (a' := ?_) #[true, true, true, true, true, true, true, false, false, false, false, false, false, false, false, false, false, false, false, false, false, false, false] rfl rfl (any_of HT_.out (by kernel_rfl)) (fun _ _ _ h => h) (Or.inr ⟨by rfl, rfl⟩) ?_ ?_
  rotate_left
  · simp only [Act.put, List.setIfInBounds_toArray, List.set_cons_zero, List.set_cons_succ, i64_w, i32_w]
    rfl
  refine pure_ (i := 7) (N := (some 43)) (v := ?_) (a' := ?_) #[true, true, true, true, true, true, true, true, false, false, false, false, false, false, false, false, false, false, false, false, false, false, false] rfl rfl (any_of HT_.out (by kernel_rfl)) (fun _ _ _ h => h) (Or.inl ⟨by rfl, ?_⟩) ?_ ?_
  rotate_left
  · intro w'
    go_simp
    with_reducible rfl
  rotate_left
  · simp only [Act.put, List.setIfInBounds_toArray, List.set_cons_zero, List.set_cons_succ, i64_w, i32_w]
    rfl
  refine pure_ (i := 8) (N := (some 44)) (v := ?_) (a' := ?_) #[true, true, true, true, true, true, true, true, true, false, false, false, false, false, false, false, false, false, false, false, false, false, false] rfl rfl (any_of HT_.out (by kernel_rfl)) (fun _ _ _ h => h) (Or.inl ⟨by rfl, ?_⟩) ?_ ?_
  rotate_left
  · intro w'
    go_simp
    with_reducible rfl
  rotate_left
  · simp only [Act.put, List.setIfInBounds_toArray, List.set_cons_zero, List.set_cons_succ, i64_w, i32_w]
    rfl
  refine pure_ (i := 9) (N := (some 45)) (v := undef) (a' := ?_) #[true, true, true, true, true, true, true, true, true, true, false, false, false, false, false, false, false, false, false, false, false, false, false] rfl rfl (any_of HT_.out (by kernel_rfl)) (fun _ _ _ h => h) (Or.inr ⟨by rfl, rfl⟩) ?_ ?_
  rotate_left
  · simp only [Act.put, List.setIfInBounds_toArray, List.set_cons_zero, List.set_cons_succ, i64_w, i32_w]
    rfl
  refine pure_ (i := 10) (N := (some 46)) (v := undef) (a' := ?_) #[true, true, true, true, true, true, true, true, true, true, true, false, false, false, false, false, false, false, false, false, false, false, false] rfl rfl (any_of HT_.out (by kernel_rfl)) (fun _ _ _ h => h) (Or.inr ⟨by rfl, rfl⟩) ?_ ?_
  rotate_left
  · simp only [Act.put, List.setIfInBounds_toArray, List.set_cons_zero, List.set_cons_succ, i64_w, i32_w]
    rfl
  refine pure_ (i := 11) (N := (some 47)) (v := undef) (a' := ?_) #[true, true, true, true, true, true, true, true, true, true, true, true, false, false, false, false, false, false, false, false, false, false, false] rfl rfl (any_of HT_.out (by kernel_rfl)) (fun _ _ _ h => h) (Or.inr ⟨by rfl, rfl⟩) ?_ ?_
  rotate_left
  · simp only [Act.put, List.setIfInBounds_toArray, List.set_cons_zero, List.set_cons_succ, i64_w, i32_w]
    rfl
  refine pure_ (i := 12) (N := (some 48)) (v := undef) (a' := ?_) #[true, true, true, true, true, true, true, true, true, true, true, true, true, false, false, false, false, false, false, false, false, false, false] rfl rfl (any_of HT_.out (by kernel_rfl)) (fun _ _ _ h => h) (Or.inr ⟨by rfl, rfl⟩) ?_ ?_
  rotate_left
  · simp only [Act.put, List.setIfInBounds_toArray, List.set_cons_zero, List.set_cons_succ, i64_w, i32_w]
    rfl
  refine pure_ (i := 13) (N := (some 49)) (v := undef) (a' := ?_) #[true, true, true, true, true, true, true, true, true, true, true, true, true, true, false, false, false, false, false, false, false, false, false] rfl rfl (any_of HT_.out (by kernel_rfl)) (fun _ _ _ h => h) (Or.inr ⟨by rfl, rfl⟩) ?_ ?_
  rotate_left
  · simp only [Act.put, List.setIfInBounds_toArray, List.set_cons_zero, List.set_cons_succ, i64_w, i32_w]
    rfl
  refine pure_ (i := 14) (N := (some 50)) (v := undef) (a' := ?_) #[true, true, true, true, true, true, true, true, true, true, true, true, true, true, true, false, false, false, false, false, false, false, false] rfl rfl (any_of HT_.out (by kernel_rfl)) (fun _ _ _ h => h) (Or.inr ⟨by rfl, rfl⟩) ?_ ?_
  rotate_left
  · simp only [Act.put, List.setIfInBounds_toArray, List.set_cons_zero, List.set_cons_succ, i64_w, i32_w]
    rfl
  refine pure_ (i := 15) (N := (some 51)) (v := undef) (a' := ?_) #[true, true, true, true, true, true, true, true, true, true, true, true, true, true, true, true, false, false, false, false, false, false, false] rfl rfl (any_of HT_.out (by kernel_rfl)) (fun _ _ _ h => h) (Or.inr ⟨by rfl, rfl⟩) ?_ ?_
  rotate_left
  · simp only [Act.put, List.setIfInBounds_toArray, List.set_cons_zero, List.set_cons_succ, i64_w, i32_w]
    rfl
  refine pure_ (i := 16) (N := (some 52)) (v := ?_) (a' := ?_) #[true, true, true, true, true, true, true, true, true, true, true, true, true, true, true, true, true, false, false, false, false, false, false] rfl rfl (any_of HT_.out (by kernel_rfl)) (fun _ _ _ h => h) (Or.inl ⟨by rfl, ?_⟩) ?_ ?_
  rotate_left
  · intro w'
    go_simp
    with_reducible rfl
  rotate_left
  · simp only [Act.put, List.setIfInBounds_toArray, List.set_cons_zero, List.set_cons_succ, i64_w, i32_w]
    rfl
  refine pure_ (i := 18) (N := (some 54)) (v := ?_) (a' := ?_) #[true, true, true, true, true, true, true, true, true, true, true, true, true, true, true, true, true, false, true, false, false, false, false] rfl rfl (any_of HT_.out (by kernel_rfl)) (fun _ _ _ h => h) (Or.inl ⟨by rfl, ?_⟩) ?_ ?_
  rotate_left
  · intro w'
    go_simp
    with_reducible rfl
  rotate_left
  · simp only [Act.put, List.setIfInBounds_toArray, List.set_cons_zero, List.set_cons_succ, i64_w, i32_w]
    rfl
  refine take_ (i := 17) (N := (some 53)) (v := ?_) (a' := ?_) #[true, true, true, true, true, true, true, true, true, true, true, true, true, true, true, true, true, true, true, false, false, false, false] rfl rfl (take_ofW HT_.out HW_.out (by kernel_rfl)) (fun _ _ _ h => h) (Or.inl ⟨by rfl, ?_⟩) hHeld ?_ ?_
  rotate_left
  · rintro w' ⟨s0, s1, s2, s3⟩
    go_simp
    with_reducible rfl
  rotate_left
  · simp only [Act.put, List.setIfInBounds_toArray, List.set_cons_zero, List.set_cons_succ, i64_w, i32_w]
    rfl
  refine take_ (i := 19) (N := (some 55)) (v := ?_) (a' := ?_) #[true, true, true, true, true, true, true, true, true, true, true, true, true, true, true, true, true, true, true, true, false, false, false] rfl rfl (take_ofW HT_.out HW_.out (by kernel_rfl)) (fun _ _ _ h => h) (Or.inl ⟨by rfl, ?_⟩) hHeld ?_ ?_
  rotate_left
  · rintro w' ⟨s0, s1, s2, s3⟩
    go_simp
    with_reducible rfl
  rotate_left
  · simp only [Act.put, List.setIfInBounds_toArray, List.set_cons_zero, List.set_cons_succ, i64_w, i32_w]
    rfl
  refine one_ (i := 20) (N := (some 56)) #[true, true, true, true, true, true, true, true, true, true, true, true, true, true, true, true, true, true, true, true, true, false, false] rfl rfl (one_of HT_.out (by kernel_rfl)) (by decide) (fun K hK => ?_)
  refine call_ (f := 75) #[pA b, .agg #[.int .i64 e.hn, .int .i64 e.hg], .int .i64 2] (by rfl) rfl (by go_simp <;> rfl) ?_
  refine (end_new b e.hn e.hg 2 w5).mono ?_
  rintro r w6 ⟨sb, xb, hb, rfl, h3, hb2⟩
  refine ⟨_, rfl, ?_⟩
  have HE := Aside0.mk (And.intro h3 (HK6.out.step hb2))
  clear h3 hb2
  refine hK.out _ _ HE.out.2.cells (fun hHeld => ?_)
  clear hK K
  refine norm_ (a' := ?_) ?_ ?_
  rotate_left
  · show Act.put _ (some 56) _ = _
    simp only [Act.put, List.setIfInBounds_toArray, List.set_cons_zero, List.set_cons_succ, i64_w, i32_w]
    rfl
  refine last_ (i := 21) (N := (some 57)) #[true, true, true, true, true, true, true, true, true, true, true, true, true, true, true, true, true, true, true, true, true, true, false] rfl rfl (one_of HT_.out (by kernel_rfl)) (by decide) (fun K hK => ?_)
  refine call_ (f := 73) #[.bool false, .func (.func 99) #[] #[pA sb, pA xb, pA hb]] (by rfl) rfl (by first | (go_simp <;> rfl) | (simp only [HTC.out]; go_simp <;> rfl)) ?_
  refine (un_end false 2 e.hn e.hg (by have := HN.out; omega) HW.out.1 HW.out.2.1 HE.out.2.dj.md HE.out.1).mono ?_
  rintro r w7 ⟨rfl, hm, hf⟩
  refine ⟨_, rfl, ?_⟩
  have HM := Aside0.mk (And.intro hm (HE.out.2.dj.fr.trans hf))
  clear hm hf
  refine hK.out _ _ ?_
  clear hK K
  refine norm_ (a' := ?_) ?_ ?_
  rotate_left
  · show Act.put _ (some 57) _ = _
    simp only [Act.put, List.setIfInBounds_toArray, List.set_cons_zero, List.set_cons_succ, i64_w, i32_w]
    rfl
  refine pure_ (i := 22) (N := (some 4)) (v := ?_) (a' := ?_) #[true, true, true, true, true, true, true, true, true, true, true, true, true, true, true, true, true, true, true, true, true, true, true] rfl rfl (any_of HT_.out (by kernel_rfl)) (fun _ _ _ h => h) (Or.inl ⟨by rfl, ?_⟩) ?_ ?_
  rotate_left
  · intro w'
    go_simp
    with_reducible rfl
  rotate_left
  · simp only [Act.put, List.setIfInBounds_toArray, List.set_cons_zero, List.set_cons_succ, i64_w, i32_w]
    rfl
  refine done_ (done_of HT_.out (by kernel_rfl)) ?_
  go_wp2
  go_ret
  exact DoPost.of HF.out rfl HM.out.1 HM.out.2

set_option maxHeartbeats 4000000 in
set_option maxRecDepth 100000 in
theorem do_fire_early {w : World} {B b n m1 m2 : Nat} {m : Md} (e : Ev) (hw : (Lit.int .i64 e.hn).wf = true ∧ (Lit.int .i64 e.hg).wf = true ∧ (Lit.int .i64 e.nn).wf = true ∧ (Lit.int .i64 e.ng).wf = true) (hn : n + 1 ≤ 1000000) (hwl : ∀ x, (Lit.int .i64 ((m.lst x).getD 0)).wf = true) (h : MdIs w B b n m m1 m2) (hr : rightJ e = true) (hk : e.k = 4) (ha : m.st e.h = 1) (hd : ¬ m.dl e.h ≤ e.t) :
    Calls Try.prog 43 #[pA b, .agg (evA e)] w (DoPost w B b n m1 m2 (doF m e)) := by
  have hu0 := Try.underlying125
  have hu1 := Try.underlying34
  have hu2 := Try.underlying54
  have hu3 := Try.underlying122
  have hmf : ∀ (fn : Fn) (first cap : Array Value) (w : World), (Instr.makeFunc fn first cap).run Try.prog w = .ok (.func fn first cap) w := fun _ _ _ _ => rfl
  have HF := Aside0.mk (show doF m e = unF false (m.end_ e.h 2) m by unfold doF; rw [if_neg (by rw [hr]; simp), if_neg (by omega), if_pos hk]; rw [if_neg (fun q => hd q.2.1)]; rfl)
  have k1 : (e.k == 1) = false := beq_eq_false_iff_ne.2 (by omega)
  have k4 : (e.k == 4) = true := beq_iff_eq.2 (hk)
  have k3 : (e.k == 3) = false := beq_eq_false_iff_ne.2 (by omega)
  have a1 : ((m.st e.h) == 1) = true := beq_iff_eq.2 (ha)
  have d1 : decide (m.dl e.h ≤ e.t) = false := decide_eq_false hd
  have CR := Aside0.mk (fun W => right_run e W)
  rw [hr] at CR
  have HW := Aside0.mk hw
  have HN := Aside0.mk hn
  have HWL := Aside0.mk hwl
  have HJ := Aside0.mk (Dj.start h e)
  clear hw hn hwl h hr hk ha hd
  have hcx := fun i => blk_cell HJ.out.xb i
  have hce := fun i => blk_cell HJ.out.eb i
  have hlx := blk_lt HJ.out.xb
  have hle := blk_lt HJ.out.eb
  have hcm := fun i => HJ.out.md.cell i
  have hlm := HJ.out.md.lt
  go_enter Try.func43, Try.ntmps43
  go_wp2_with (first | (go_at_call 65; (with_reducible refine (CR.out _).mono ?_); rintro r w2 ⟨rfl, hb2⟩; have HJ2 := Aside0.mk (HJ.out.step hb2); clear hb2 hcx hce hlx hle hcm hlm; have HJ := HJ2; have hcx := fun i => blk_cell HJ.out.xb i; have hce := fun i => blk_cell HJ.out.eb i; have hlx := blk_lt HJ.out.xb; have hle := blk_lt HJ.out.eb; have hcm := fun i => HJ.out.md.cell i; have hlm := HJ.out.md.lt))
  obtain ⟨kl, hkl⟩ := keyH e.hn e.hg HW.out.1 HW.out.2.1
  refine start_ (n := 9) (S := (fun w' => (∀ i, w'.cell? ⟨b, i, none⟩ = (mdA m m1 m2)[i]?) ∧ (∀ i, w'.cell? ⟨w.heap.size, i, none⟩ = (#[pA b] : Array Value)[i]?) ∧ (∀ i, w'.cell? ⟨w.heap.size + 1, i, none⟩ = (evA e)[i]?) ∧ (Instr.lookup 123 (.map (some m1)) (haV e.h) false).run Try.prog w' = .ok (.agg #[.int .i64 (m.st e.h), .int .i64 (m.dl e.h)]) w')) (ds := [8]) #[false, false, false, false, false, false, false, false, false] (by kernel_rfl) rfl rfl ⟨HJ.out.drew.cells.1, HJ.out.drew.cells.2.1, HJ.out.drew.cells.2.2, HJ.out.drew.md.look hkl _ rfl⟩ (fun hHeld => ?_)
  refine with_tabW doR.tab3 doR.bits3 (fun HT_ HW_ => ?_)
  have HJ3 := Aside0.mk HJ.out.drew
  generalize World.drew _ = w3 at HJ3 hHeld ⊢
  clear HJ hcx hce hlx hle hcm hlm
  have hlx := blk_lt HJ3.out.xb
  have hle := blk_lt HJ3.out.eb
  have hlm := HJ3.out.md.lt
  refine pure_ (i := 4) (N := (some 14)) (v := ?_) (a' := ?_) #[false, false, false, false, true, false, false, false, false] rfl rfl (any_of HT_.out (by kernel_rfl)) (fun _ _ _ h => h) (Or.inl ⟨by rfl, ?_⟩) ?_ ?_
  rotate_left
  · intro w'
    go_simp
    with_reducible rfl
  rotate_left
  · simp only [Act.put, List.setIfInBounds_toArray, List.set_cons_zero, List.set_cons_succ, i64_w, i32_w]
    rfl
  refine take_ (i := 0) (N := (some 10)) (v := ?_) (a' := ?_) #[true, false, false, false, true, false, false, false, false] rfl rfl (take_ofW HT_.out HW_.out (by kernel_rfl)) (fun _ _ _ h => h) (Or.inl ⟨by rfl, ?_⟩) hHeld ?_ ?_
  rotate_left
  · rintro w' ⟨s0, s1, s2, s3⟩
    go_simp
    with_reducible rfl
  rotate_left
  · simp only [Act.put, List.setIfInBounds_toArray, List.set_cons_zero, List.set_cons_succ, i64_w, i32_w]
    rfl
  refine pure_ (i := 1) (N := (some 11)) (v := ?_) (a' := ?_) #[true, true, false, false, true, false, false, false, false] rfl rfl (any_of HT_.out (by kernel_rfl)) (fun _ _ _ h => h) (Or.inl ⟨by rfl, ?_⟩) ?_ ?_
  rotate_left
  · intro w'
    go_simp
    with_reducible rfl
  rotate_left
  · simp only [Act.put, List.setIfInBounds_toArray, List.set_cons_zero, List.set_cons_succ, i64_w, i32_w]
    rfl
  refine pure_ (i := 2) (N := (some 12)) (v := ?_) (a' := ?_) #[true, true, true, false, true, false, false, false, false] rfl rfl (any_of HT_.out (by kernel_rfl)) (fun _ _ _ h => h) (Or.inl ⟨by rfl, ?_⟩) ?_ ?_
  rotate_left
  · intro w'
    go_simp
    with_reducible rfl
  rotate_left
  · simp only [Act.put, List.setIfInBounds_toArray, List.set_cons_zero, List.set_cons_succ, i64_w, i32_w]
    rfl
  refine take_ (i := 3) (N := (some 13)) (v := ?_) (a' := ?_) #[true, true, true, true, true, false, false, false, false] rfl rfl (take_ofW HT_.out HW_.out (by kernel_rfl)) (fun _ _ _ h => h) (Or.inl ⟨by rfl, ?_⟩) hHeld ?_ ?_
  rotate_left
  · rintro w' ⟨s0, s1, s2, s3⟩
    go_simp
    with_reducible rfl
  rotate_left
  · simp only [Act.put, List.setIfInBounds_toArray, List.set_cons_zero, List.set_cons_succ, i64_w, i32_w]
    rfl
  refine take_ (i := 5) (N := (some 15)) (v := ?_) (a' := ?_) #[true, true, true, true, true, true, false, false, false] rfl rfl (take_ofW HT_.out HW_.out (by kernel_rfl)) (fun _ _ _ h => h) (Or.inl ⟨by rfl, ?_⟩) hHeld ?_ ?_
  rotate_left
  · rintro w' ⟨s0, s1, s2, s3⟩
    go_simp
    with_reducible rfl
  rotate_left
  · simp only [Act.put, List.setIfInBounds_toArray, List.set_cons_zero, List.set_cons_succ, i64_w, i32_w]
    rfl
  refine take_ (i := 6) (N := (some 16)) (v := ?_) (a' := ?_) #[true, true, true, true, true, true, true, false, false] rfl rfl (take_ofW HT_.out HW_.out (by kernel_rfl)) (fun _ _ _ h => h) (Or.inl ⟨by rfl, ?_⟩) hHeld ?_ ?_
  rotate_left
  · rintro w' ⟨s0, s1, s2, s3⟩
    go_simp
    with_reducible rfl
  rotate_left
  · simp only [Act.put, List.setIfInBounds_toArray, List.set_cons_zero, List.set_cons_succ, i64_w, i32_w]
    rfl
  refine one_ (i := 7) (N := (some 5)) #[true, true, true, true, true, true, true, true, false] rfl rfl (one_of HT_.out (by kernel_rfl)) (by decide) (fun K hK => ?_)
  refine value_ (by rfl) rfl (v := .pointer (some ⟨w3.heap.size, 0, none⟩)) (w1 := w3.alloc (.cells #[.int .i64 0, .int .i64 0] 122)) (by go_simp <;> rfl) ?_
  refine hK.out _ _ ⟨(HJ3.out.alloc _).cells.1, (HJ3.out.alloc _).cells.2.1, (HJ3.out.alloc _).cells.2.2, (HJ3.out.alloc _).md.look hkl _ rfl⟩ (fun hHeld => ?_)
  clear hK K
  refine norm_ (a' := ?_) ?_ ?_
  rotate_left
  · show Act.put _ (some 5) _ = _
    simp only [Act.put, List.setIfInBounds_toArray, List.set_cons_zero, List.set_cons_succ, i64_w, i32_w]
    rfl
  refine last_ (i := 8) (N := none) #[true, true, true, true, true, true, true, true, true] rfl rfl (one_of HT_.out (by kernel_rfl)) (by decide) (fun K hK => ?_)
  refine skip_ (by rfl) rfl (w1 := w3.alloc (.cells #[.int .i64 (m.st e.h), .int .i64 (m.dl e.h)] 122)) (by go_simp <;> rfl) ?_
  refine hK.out _ _ ?_
  clear hK K
  refine done_ (done_of HT_.out (by kernel_rfl)) ?_
  clear hHeld
  have hcx := fun i => blk_cell (HJ3.out.alloc (.cells #[.int .i64 (m.st e.h), .int .i64 (m.dl e.h)] 122)).xb i
  have hce := fun i => blk_cell (HJ3.out.alloc (.cells #[.int .i64 (m.st e.h), .int .i64 (m.dl e.h)] 122)).eb i
  have hcm := fun i => (HJ3.out.alloc (.cells #[.int .i64 (m.st e.h), .int .i64 (m.dl e.h)] 122)).md.cell i
  have HK := Aside0.mk (show Dk w (w3.alloc (.cells #[.int .i64 (m.st e.h), .int .i64 (m.dl e.h)] 122)) B b n m1 m2 m e w3.heap.size from ⟨HJ3.out.alloc _, blk_new _ _⟩)
  clear hkl
  go_upto_region 9 with (fail)
  refine gen_world' (fun W => Dk w W B b n m1 m2 m e w3.heap.size) (by exact HK.out) fun w4 HK4 => ?_
  obtain ⟨fb, hfb⟩ : ∃ fb, w3.heap.size = fb := ⟨_, rfl⟩
  rw [hfb] at HK4 ⊢
  have HK5 := Aside0.mk HK4.drew
  clear HK hfb HK4 hcx hce hlx hle hcm hlm
  refine start_ (n := 23) (S := (fun w' => (∀ i, w'.cell? ⟨b, i, none⟩ = (mdA m m1 m2)[i]?) ∧ (∀ i, w'.cell? ⟨w.heap.size, i, none⟩ = (#[pA b] : Array Value)[i]?) ∧ (∀ i, w'.cell? ⟨w.heap.size + 1, i, none⟩ = (evA e)[i]?) ∧ (∀ i, w'.cell? ⟨fb, i, none⟩ = (#[.int .i64 (m.st e.h), .int .i64 (m.dl e.h)] : Array Value)[i]?))) (ds := [21]) #[false, false, false, false, false, false, false, false, false, false, false, false, false, false, false, false, false, false, false, false, false, false, false] (by kernel_rfl) rfl rfl HK5.out.cells (fun hHeld => ?_)
  refine with_tabW doR.tab9 doR.bits9 (fun HT_ HW_ => ?_)
  have HK6 := HK5
  generalize w4.drew = w5 at HK5 HK6 hHeld ⊢
  clear HK5
  have hlm := HK6.out.dj.md.lt
  have hlx := blk_lt HK6.out.dj.xb
  have hle := blk_lt HK6.out.dj.eb
  have hlf := blk_lt HK6.out.fb
  refine pure_ (i := 0) (N := (some 36)) (v := ?_) (a' := ?_) #[true, false, false, false, false, false, false, false, false, false, false, false, false, false, false, false, false, false, false, false, false, false, false] rfl rfl (any_of HT_.out (by kernel_rfl)) (fun _ _ _ h => h) (Or.inl ⟨by rfl, ?_⟩) ?_ ?_
  rotate_left
  · intro w'
    go_simp
    with_reducible rfl
  rotate_left
  · simp only [Act.put, List.setIfInBounds_toArray, List.set_cons_zero, List.set_cons_succ, i64_w, i32_w]
    rfl
  refine pure_ (i := 1) (N := (some 37)) (v := ?_) (a' := ?_) #[true, true, false, false, false, false, false, false, false, false, false, false, false, false, false, false, false, false, false, false, false, false, false] rfl rfl (any_of HT_.out (by kernel_rfl)) (fun _ _ _ h => h) (Or.inl ⟨by rfl, ?_⟩) ?_ ?_
  rotate_left
  · intro w'
    go_simp
    with_reducible rfl
  rotate_left
  · simp only [Act.put, List.setIfInBounds_toArray, List.set_cons_zero, List.set_cons_succ, i64_w, i32_w]
    rfl
  refine pure_ (i := 2) (N := (some 38)) (v := ?_) (a' := ?_) #[true, true, true, false, false, false, false, false, false, false, false, false, false, false, false, false, false, false, false, false, false, false, false] rfl rfl (any_of HT_.out (by kernel_rfl)) (fun _ _ _ h => h) (Or.inl ⟨by rfl, ?_⟩) ?_ ?_
  rotate_left
  · intro w'
    go_simp
    with_reducible rfl
  rotate_left
  · simp only [Act.put, List.setIfInBounds_toArray, List.set_cons_zero, List.set_cons_succ, i64_w, i32_w]
    rfl
  refine pure_ (i := 4) (N := (some 40)) (v := ?_) (a' := ?_) #[true, true, true, false, true, false, false, false, false, false, false, false, false, false, false, false, false, false, false, false, false, false, false] rfl rfl (any_of HT_.out (by kernel_rfl)) (fun _ _ _ h => h) (Or.inl ⟨by rfl, ?_⟩) ?_ ?_
  rotate_left
  · intro w'
    go_simp
    with_reducible rfl
  rotate_left
  · simp only [Act.put, List.setIfInBounds_toArray, List.set_cons_zero, List.set_cons_succ, i64_w, i32_w]
    rfl
  refine pure_ (i := 18) (N := (some 54)) (v := ?_) (a' := ?_) #[true, true, true, false, true, false, false, false, false, false, false, false, false, false, false, false, false, false, true, false, false, false, false] rfl rfl (any_of HT_.out (by kernel_rfl)) (fun _ _ _ h => h) (Or.inl ⟨by rfl, ?_⟩) ?_ ?_
  rotate_left
  · intro w'
    go_simp
    with_reducible rfl
  rotate_left
  · simp only [Act.put, List.setIfInBounds_toArray, List.set_cons_zero, List.set_cons_succ, i64_w, i32_w]
    rfl
  refine take_ (i := 3) (N := (some 39)) (v := ?_) (a' := ?_) #[true, true, true, true, true, false, false, false, false, false, false, false, false, false, false, false, false, false, true, false, false, false, false] rfl rfl (take_ofW HT_.out HW_.out (by kernel_rfl)) (fun _ _ _ h => h) (Or.inl ⟨by rfl, ?_⟩) hHeld ?_ ?_
  rotate_left
  · rintro w' ⟨s0, s1, s2, s3⟩
    go_simp
    with_reducible rfl
  rotate_left
  · simp only [Act.put, List.setIfInBounds_toArray, List.set_cons_zero, List.set_cons_succ, i64_w, i32_w]
    rfl
  refine take_ (i := 5) (N := (some 41)) (v := ?_) (a' := ?_) #[true, true, true, true, true, true, false, false, false, false, false, false, false, false, false, false, false, false, true, false, false, false, false] rfl rfl (take_ofW HT_.out HW_.out (by kernel_rfl)) (fun _ _ _ h => h) (Or.inl ⟨by rfl, ?_⟩) hHeld ?_ ?_
  rotate_left
  · rintro w' ⟨s0, s1, s2, s3⟩
    go_simp
    with_reducible rfl
  rotate_left
  · simp only [Act.put, List.setIfInBounds_toArray, List.set_cons_zero, List.set_cons_succ, i64_w, i32_w]
    rfl
  refine pure_ (i := 6) (N := (some 42)) (v := ?_) (a' := ?_) #[true, true, true, true, true, true, true, false, false, false, false, false, false, false, false, false, false, false, true, false, false, false, false] rfl rfl (any_of HT_.out (by kernel_rfl)) (fun _ _ _ h => h) (Or.inl ⟨by rfl, ?_⟩) ?_ ?_
  rotate_left
  · intro w'
    go_simp
    with_reducible rfl
  rotate_left
  · simp only [Act.put, List.setIfInBounds_toArray, List.set_cons_zero, List.set_cons_succ, i64_w, i32_w]
    rfl
  refine pure_ (i := 7) (N := (some 43)) (v := ?_) (a' := ?_) #[true, true, true, true, true, true, true, true, false, false, false, false, false, false, false, false, false, false, true, false, false, false, false] rfl rfl (any_of HT_.out (by kernel_rfl)) (fun _ _ _ h => h) (Or.inl ⟨by rfl, ?_⟩) ?_ ?_
  rotate_left
  · intro w'
    go_simp
    with_reducible rfl
  rotate_left
  · simp only [Act.put, List.setIfInBounds_toArray, List.set_cons_zero, List.set_cons_succ, i64_w, i32_w]
    rfl
  refine pure_ (i := 8) (N := (some 44)) (v := ?_) (a' := ?_) #[true, true, true, true, true, true, true, true, true, false, false, false, false, false, false, false, false, false, true, false, false, false, false] rfl rfl (any_of HT_.out (by kernel_rfl)) (fun _ _ _ h => h) (Or.inl ⟨by rfl, ?_⟩) ?_ ?_
  rotate_left
  · intro w'
    go_simp
    with_reducible rfl
  rotate_left
  · simp only [Act.put, List.setIfInBounds_toArray, List.set_cons_zero, List.set_cons_succ, i64_w, i32_w]
    rfl
  refine pure_ (i := 9) (N := (some 45)) (v := undef) (a' := ?_) #[true, true, true, true, true, true, true, true, true, true, false, false, false, false, false, false, false, false, true, false, false, false, false] rfl rfl (any_of HT_.out (by kernel_rfl)) (fun _ _ _ h => h) (Or.inr ⟨by rfl, rfl⟩) ?_ ?_
  rotate_left
  · simp only [Act.put, List.setIfInBounds_toArray, List.set_cons_zero, List.set_cons_succ, i64_w, i32_w]
    rfl
  refine pure_ (i := 10) (N := (some 46)) (v := undef) (a' := ?_) #[true, true, true, true, true, true, true, true, true, true, true, false, false, false, false, false, false, false, true, false, false, false, false] rfl rfl (any_of HT_.out (by kernel_rfl)) (fun _ _ _ h => h) (Or.inr ⟨by rfl, rfl⟩) ?_ ?_
  rotate_left
  · simp only [Act.put, List.setIfInBounds_toArray, List.set_cons_zero, List.set_cons_succ, i64_w, i32_w]
    rfl
  refine pure_ (i := 11) (N := (some 47)) (v := undef) (a' := ?_) #[true, true, true, true, true, true, true, true, true, true, true, true, false, false, false, false, false, false, true, false, false, false, false] rfl rfl (any_of HT_.out (by kernel_rfl)) (fun _ _ _ h => h) (Or.inr ⟨by rfl, rfl⟩) ?_ ?_
  rotate_left
  · simp only [Act.put, List.setIfInBounds_toArray, List.set_cons_zero, List.set_cons_succ, i64_w, i32_w]
    rfl
  refine pure_ (i := 12) (N := (some 48)) (v := undef) (a' := ?_) #[true, true, true, true, true, true, true, true, true, true, true, true, true, false, false, false, false, false, true, false, false, false, false] rfl rfl (any_of HT_.out (by kernel_rfl)) (fun _ _ _ h => h) (Or.inr ⟨by rfl, rfl⟩) ?_ ?_
  rotate_left
  · simp only [Act.put, List.setIfInBounds_toArray, List.set_cons_zero, List.set_cons_succ, i64_w, i32_w]
    rfl
  refine pure_ (i := 13) (N := (some 49)) (v := undef) (a' := ?_) #[true, true, true, true, true, true, true, true, true, true, true, true, true, true, false, false, false, false, true, false, false, false, false] rfl rfl (any_of HT_.out (by kernel_rfl)) (fun _ _ _ h => h) (Or.inr ⟨by rfl, rfl⟩) ?_ ?_
  rotate_left
  · simp only [Act.put, List.setIfInBounds_toArray, List.set_cons_zero, List.set_cons_succ, i64_w, i32_w]
    rfl
  refine pure_ (i := 14) (N := (some 50)) (v := undef) (a' := ?_) #[true, true, true, true, true, true, true, true, true, true, true, true, true, true, true, false, false, false, true, false, false, false, false] rfl rfl (any_of HT_.out (by kernel_rfl)) (fun _ _ _ h => h) (Or.inr ⟨by rfl, rfl⟩) ?_ ?_
  rotate_left
  · simp only [Act.put, List.setIfInBounds_toArray, List.set_cons_zero, List.set_cons_succ, i64_w, i32_w]
    rfl
  refine pure_ (i := 15) (N := (some 51)) (v := undef) (a' := ?_) #[true, true, true, true, true, true, true, true, true, true, true, true, true, true, true, true, false, false, true, false, false, false, false] rfl rfl (any_of HT_.out (by kernel_rfl)) (fun _ _ _ h => h) (Or.inr ⟨by rfl, rfl⟩) ?_ ?_
  rotate_left
  · simp only [Act.put, List.setIfInBounds_toArray, List.set_cons_zero, List.set_cons_succ, i64_w, i32_w]
    rfl
  refine pure_ (i := 16) (N := (some 52)) (v := ?_) (a' := ?_) #[true, true, true, true, true, true, true, true, true, true, true, true, true, true, true, true, true, false, true, false, false, false, false] rfl rfl (any_of HT_.out (by kernel_rfl)) (fun _ _ _ h => h) (Or.inl ⟨by rfl, ?_⟩) ?_ ?_
  rotate_left
  · intro w'
    go_simp
    with_reducible rfl
  rotate_left
  · simp only [Act.put, List.setIfInBounds_toArray, List.set_cons_zero, List.set_cons_succ, i64_w, i32_w]
    rfl
  refine take_ (i := 17) (N := (some 53)) (v := ?_) (a' := ?_) #[true, true, true, true, true, true, true, true, true, true, true, true, true, true, true, true, true, true, true, false, false, false, false] rfl rfl (take_ofW HT_.out HW_.out (by kernel_rfl)) (fun _ _ _ h => h) (Or.inl ⟨by rfl, ?_⟩) hHeld ?_ ?_
  rotate_left
  · rintro w' ⟨s0, s1, s2, s3⟩
    go_simp
    with_reducible rfl
  rotate_left
  · simp only [Act.put, List.setIfInBounds_toArray, List.set_cons_zero, List.set_cons_succ, i64_w, i32_w]
    rfl
  refine take_ (i := 19) (N := (some 55)) (v := ?_) (a' := ?_) #[true, true, true, true, true, true, true, true, true, true, true, true, true, true, true, true, true, true, true, true, false, false, false] rfl rfl (take_ofW HT_.out HW_.out (by kernel_rfl)) (fun _ _ _ h => h) (Or.inl ⟨by rfl, ?_⟩) hHeld ?_ ?_
  rotate_left
  · rintro w' ⟨s0, s1, s2, s3⟩
    go_simp
    with_reducible rfl
  rotate_left
  · simp only [Act.put, List.setIfInBounds_toArray, List.set_cons_zero, List.set_cons_succ, i64_w, i32_w]
    rfl
  refine one_ (i := 20) (N := (some 56)) #[true, true, true, true, true, true, true, true, true, true, true, true, true, true, true, true, true, true, true, true, true, false, false] rfl rfl (one_of HT_.out (by kernel_rfl)) (by decide) (fun K hK => ?_)
  refine call_ (f := 75) #[pA b, .agg #[.int .i64 e.hn, .int .i64 e.hg], .int .i64 2] (by rfl) rfl (by go_simp <;> rfl) ?_
  refine (end_new b e.hn e.hg 2 w5).mono ?_
  rintro r w6 ⟨sb, xb, hb, rfl, h3, hb2⟩
  refine ⟨_, rfl, ?_⟩
  have HE := Aside0.mk (And.intro h3 (HK6.out.step hb2))
  clear h3 hb2
  refine hK.out _ _ HE.out.2.cells (fun hHeld => ?_)
  clear hK K
  refine norm_ (a' := ?_) ?_ ?_
  rotate_left
  · show Act.put _ (some 56) _ = _
    simp only [Act.put, List.setIfInBounds_toArray, List.set_cons_zero, List.set_cons_succ, i64_w, i32_w]
    rfl
  refine last_ (i := 21) (N := (some 57)) #[true, true, true, true, true, true, true, true, true, true, true, true, true, true, true, true, true, true, true, true, true, true, false] rfl rfl (one_of HT_.out (by kernel_rfl)) (by decide) (fun K hK => ?_)
  refine call_ (f := 73) #[.bool false, .func (.func 99) #[] #[pA sb, pA xb, pA hb]] (by rfl) rfl (by first | (go_simp <;> rfl) | (simp only [HTC.out]; go_simp <;> rfl)) ?_
  refine (un_end false 2 e.hn e.hg (by have := HN.out; omega) HW.out.1 HW.out.2.1 HE.out.2.dj.md HE.out.1).mono ?_
  rintro r w7 ⟨rfl, hm, hf⟩
  refine ⟨_, rfl, ?_⟩
  have HM := Aside0.mk (And.intro hm (HE.out.2.dj.fr.trans hf))
  clear hm hf
  refine hK.out _ _ ?_
  clear hK K
  refine norm_ (a' := ?_) ?_ ?_
  rotate_left
  · show Act.put _ (some 57) _ = _
    simp only [Act.put, List.setIfInBounds_toArray, List.set_cons_zero, List.set_cons_succ, i64_w, i32_w]
    rfl
  refine pure_ (i := 22) (N := (some 4)) (v := ?_) (a' := ?_) #[true, true, true, true, true, true, true, true, true, true, true, true, true, true, true, true, true, true, true, true, true, true, true] rfl rfl (any_of HT_.out (by kernel_rfl)) (fun _ _ _ h => h) (Or.inl ⟨by rfl, ?_⟩) ?_ ?_
  rotate_left
  · intro w'
    go_simp
    with_reducible rfl
  rotate_left
  · simp only [Act.put, List.setIfInBounds_toArray, List.set_cons_zero, List.set_cons_succ, i64_w, i32_w]
    rfl
  refine done_ (done_of HT_.out (by kernel_rfl)) ?_
  go_wp2
  go_ret
  exact DoPost.of HF.out rfl HM.out.1 HM.out.2

set_option maxHeartbeats 4000000 in
set_option maxRecDepth 100000 in
theorem do_fire {w : World} {B b n m1 m2 : Nat} {m : Md} (e : Ev) (hw : (Lit.int .i64 e.hn).wf = true ∧ (Lit.int .i64 e.hg).wf = true ∧ (Lit.int .i64 e.nn).wf = true ∧ (Lit.int .i64 e.ng).wf = true) (hn : n + 1 ≤ 1000000) (hwl : ∀ x, (Lit.int .i64 ((m.lst x).getD 0)).wf = true) (h : MdIs w B b n m m1 m2) (hr : rightJ e = true) (hk : e.k = 4) (ha : m.st e.h = 1) (hd : m.dl e.h ≤ e.t) :
    Calls Try.prog 43 #[pA b, .agg (evA e)] w (DoPost w B b n m1 m2 (doF m e)) := by
  have hu0 := Try.underlying125
  have hu1 := Try.underlying34
  have hu2 := Try.underlying54
  have hu3 := Try.underlying122
  have hmf : ∀ (fn : Fn) (first cap : Array Value) (w : World), (Instr.makeFunc fn first cap).run Try.prog w = .ok (.func fn first cap) w := fun _ _ _ _ => rfl
  have HF := Aside0.mk (show doF m e = unF (decide (e.t ≤ m.clk)) (m.end_ e.h 2) m by unfold doF; rw [if_neg (by rw [hr]; simp), if_neg (by omega), if_pos hk]; unfold unF; by_cases ht : e.t ≤ m.clk <;> simp [ha, hd, ht])
  have k1 : (e.k == 1) = false := beq_eq_false_iff_ne.2 (by omega)
  have k4 : (e.k == 4) = true := beq_iff_eq.2 (hk)
  have k3 : (e.k == 3) = false := beq_eq_false_iff_ne.2 (by omega)
  have a1 : ((m.st e.h) == 1) = true := beq_iff_eq.2 (ha)
  have d1 : decide (m.dl e.h ≤ e.t) = true := decide_eq_true hd
  have CR := Aside0.mk (fun W => right_run e W)
  rw [hr] at CR
  have HW := Aside0.mk hw
  have HN := Aside0.mk hn
  have HWL := Aside0.mk hwl
  have HJ := Aside0.mk (Dj.start h e)
  clear hw hn hwl h hr hk ha hd
  have hcx := fun i => blk_cell HJ.out.xb i
  have hce := fun i => blk_cell HJ.out.eb i
  have hlx := blk_lt HJ.out.xb
  have hle := blk_lt HJ.out.eb
  have hcm := fun i => HJ.out.md.cell i
  have hlm := HJ.out.md.lt
  go_enter Try.func43, Try.ntmps43
  go_wp2_with (first | (go_at_call 65; (with_reducible refine (CR.out _).mono ?_); rintro r w2 ⟨rfl, hb2⟩; have HJ2 := Aside0.mk (HJ.out.step hb2); clear hb2 hcx hce hlx hle hcm hlm; have HJ := HJ2; have hcx := fun i => blk_cell HJ.out.xb i; have hce := fun i => blk_cell HJ.out.eb i; have hlx := blk_lt HJ.out.xb; have hle := blk_lt HJ.out.eb; have hcm := fun i => HJ.out.md.cell i; have hlm := HJ.out.md.lt))
  obtain ⟨kl, hkl⟩ := keyH e.hn e.hg HW.out.1 HW.out.2.1
  refine start_ (n := 9) (S := (fun w' => (∀ i, w'.cell? ⟨b, i, none⟩ = (mdA m m1 m2)[i]?) ∧ (∀ i, w'.cell? ⟨w.heap.size, i, none⟩ = (#[pA b] : Array Value)[i]?) ∧ (∀ i, w'.cell? ⟨w.heap.size + 1, i, none⟩ = (evA e)[i]?) ∧ (Instr.lookup 123 (.map (some m1)) (haV e.h) false).run Try.prog w' = .ok (.agg #[.int .i64 (m.st e.h), .int .i64 (m.dl e.h)]) w')) (ds := [8]) #[false, false, false, false, false, false, false, false, false] (by kernel_rfl) rfl rfl ⟨HJ.out.drew.cells.1, HJ.out.drew.cells.2.1, HJ.out.drew.cells.2.2, HJ.out.drew.md.look hkl _ rfl⟩ (fun hHeld => ?_)
  refine with_tabW doR.tab3 doR.bits3 (fun HT_ HW_ => ?_)
  have HJ3 := Aside0.mk HJ.out.drew
  generalize World.drew _ = w3 at HJ3 hHeld ⊢
  clear HJ hcx hce hlx hle hcm hlm
  have hlx := blk_lt HJ3.out.xb
  have hle := blk_lt HJ3.out.eb
  have hlm := HJ3.out.md.lt
  refine pure_ (i := 4) (N := (some 14)) (v := ?_) (a' := ?_) #[false, false, false, false, true, false, false, false, false] rfl rfl (any_of HT_.out (by kernel_rfl)) (fun _ _ _ h => h) (Or.inl ⟨by rfl, ?_⟩) ?_ ?_
  rotate_left
  · intro w'
    go_simp
    with_reducible rfl
  rotate_left
  · simp only [Act.put, List.setIfInBounds_toArray, List.set_cons_zero, List.set_cons_succ, i64_w, i32_w]
    rfl
  refine take_ (i := 0) (N := (some 10)) (v := ?_) (a' := ?_) #[true, false, false, false, true, false, false, false, false] rfl rfl (take_ofW HT_.out HW_.out (by kernel_rfl)) (fun _ _ _ h => h) (Or.inl ⟨by rfl, ?_⟩) hHeld ?_ ?_
  rotate_left
  · rintro w' ⟨s0, s1, s2, s3⟩
    go_simp
    with_reducible rfl
  rotate_left
  · simp only [Act.put, List.setIfInBounds_toArray, List.set_cons_zero, List.set_cons_succ, i64_w, i32_w]
    rfl
  refine pure_ (i := 1) (N := (some 11)) (v := ?_) (a' := ?_) #[true, true, false, false, true, false, false, false, false] rfl rfl (any_of HT_.out (by kernel_rfl)) (fun _ _ _ h => h) (Or.inl ⟨by rfl, ?_⟩) ?_ ?_
  rotate_left
  · intro w'
    go_simp
    with_reducible rfl
  rotate_left
  · simp only [Act.put, List.setIfInBounds_toArray, List.set_cons_zero, List.set_cons_succ, i64_w, i32_w]
    rfl
  refine pure_ (i := 2) (N := (some 12)) (v := ?_) (a' := ?_) #[true, true, true, false, true, false, false, false, false] rfl rfl (any_of HT_.out (by kernel_rfl)) (fun _ _ _ h => h) (Or.inl ⟨by rfl, ?_⟩) ?_ ?_
  rotate_left
  · intro w'
    go_simp
    with_reducible rfl
  rotate_left
  · simp only [Act.put, List.setIfInBounds_toArray, List.set_cons_zero, List.set_cons_succ, i64_w, i32_w]
    rfl
  refine take_ (i := 3) (N := (some 13)) (v := ?_) (a' := ?_) #[true, true, true, true, true, false, false, false, false] rfl rfl (take_ofW HT_.out HW_.out (by kernel_rfl)) (fun _ _ _ h => h) (Or.inl ⟨by rfl, ?_⟩) hHeld ?_ ?_
  rotate_left
  · rintro w' ⟨s0, s1, s2, s3⟩
    go_simp
    with_reducible rfl
  rotate_left
  · simp only [Act.put, List.setIfInBounds_toArray, List.set_cons_zero, List.set_cons_succ, i64_w, i32_w]
    rfl
  refine take_ (i := 5) (N := (some 15)) (v := ?_) (a' := ?_) #[true, true, true, true, true, true, false, false, false] rfl rfl (take_ofW HT_.out HW_.out (by kernel_rfl)) (fun _ _ _ h => h) (Or.inl ⟨by rfl, ?_⟩) hHeld ?_ ?_
  rotate_left
  · rintro w' ⟨s0, s1, s2, s3⟩
    go_simp
    with_reducible rfl
  rotate_left
  · simp only [Act.put, List.setIfInBounds_toArray, List.set_cons_zero, List.set_cons_succ, i64_w, i32_w]
    rfl
  refine take_ (i := 6) (N := (some 16)) (v := ?_) (a' := ?_) #[true, true, true, true, true, true, true, false, false] rfl rfl (take_ofW HT_.out HW_.out (by kernel_rfl)) (fun _ _ _ h => h) (Or.inl ⟨by rfl, ?_⟩) hHeld ?_ ?_
  rotate_left
  · rintro w' ⟨s0, s1, s2, s3⟩
    go_simp
    with_reducible rfl
  rotate_left
  · simp only [Act.put, List.setIfInBounds_toArray, List.set_cons_zero, List.set_cons_succ, i64_w, i32_w]
    rfl
  refine one_ (i := 7) (N := (some 5)) #[true, true, true, true, true, true, true, true, false] rfl rfl (one_of HT_.out (by kernel_rfl)) (by decide) (fun K hK => ?_)
  refine value_ (by rfl) rfl (v := .pointer (some ⟨w3.heap.size, 0, none⟩)) (w1 := w3.alloc (.cells #[.int .i64 0, .int .i64 0] 122)) (by go_simp <;> rfl) ?_
  refine hK.out _ _ ⟨(HJ3.out.alloc _).cells.1, (HJ3.out.alloc _).cells.2.1, (HJ3.out.alloc _).cells.2.2, (HJ3.out.alloc _).md.look hkl _ rfl⟩ (fun hHeld => ?_)
  clear hK K
  refine norm_ (a' := ?_) ?_ ?_
  rotate_left
  · show Act.put _ (some 5) _ = _
    simp only [Act.put, List.setIfInBounds_toArray, List.set_cons_zero, List.set_cons_succ, i64_w, i32_w]
    rfl
  refine last_ (i := 8) (N := none) #[true, true, true, true, true, true, true, true, true] rfl rfl (one_of HT_.out (by kernel_rfl)) (by decide) (fun K hK => ?_)
  refine skip_ (by rfl) rfl (w1 := w3.alloc (.cells #[.int .i64 (m.st e.h), .int .i64 (m.dl e.h)] 122)) (by go_simp <;> rfl) ?_
  refine hK.out _ _ ?_
  clear hK K
  refine done_ (done_of HT_.out (by kernel_rfl)) ?_
  clear hHeld
  have hcx := fun i => blk_cell (HJ3.out.alloc (.cells #[.int .i64 (m.st e.h), .int .i64 (m.dl e.h)] 122)).xb i
  have hce := fun i => blk_cell (HJ3.out.alloc (.cells #[.int .i64 (m.st e.h), .int .i64 (m.dl e.h)] 122)).eb i
  have hcm := fun i => (HJ3.out.alloc (.cells #[.int .i64 (m.st e.h), .int .i64 (m.dl e.h)] 122)).md.cell i
  have HK := Aside0.mk (show Dk w (w3.alloc (.cells #[.int .i64 (m.st e.h), .int .i64 (m.dl e.h)] 122)) B b n m1 m2 m e w3.heap.size from ⟨HJ3.out.alloc _, blk_new _ _⟩)
  clear hkl
  go_upto_region 9 with (fail)
  refine gen_world' (fun W => Dk w W B b n m1 m2 m e w3.heap.size) (by exact HK.out) fun w4 HK4 => ?_
  obtain ⟨fb, hfb⟩ : ∃ fb, w3.heap.size = fb := ⟨_, rfl⟩
  rw [hfb] at HK4 ⊢
  have HK5 := Aside0.mk HK4.drew
  clear HK hfb HK4 hcx hce hlx hle hcm hlm
  refine start_ (n := 23) (S := (fun w' => (∀ i, w'.cell? ⟨b, i, none⟩ = (mdA m m1 m2)[i]?) ∧ (∀ i, w'.cell? ⟨w.heap.size, i, none⟩ = (#[pA b] : Array Value)[i]?) ∧ (∀ i, w'.cell? ⟨w.heap.size + 1, i, none⟩ = (evA e)[i]?) ∧ (∀ i, w'.cell? ⟨fb, i, none⟩ = (#[.int .i64 (m.st e.h), .int .i64 (m.dl e.h)] : Array Value)[i]?))) (ds := [21]) #[false, false, false, false, false, false, false, false, false, false, false, false, false, false, false, false, false, false, false, false, false, false, false] (by kernel_rfl) rfl rfl HK5.out.cells (fun hHeld => ?_)
  refine with_tabW doR.tab9 doR.bits9 (fun HT_ HW_ => ?_)
  have HK6 := HK5
  generalize w4.drew = w5 at HK5 HK6 hHeld ⊢
  clear HK5
  have hlm := HK6.out.dj.md.lt
  have hlx := blk_lt HK6.out.dj.xb
  have hle := blk_lt HK6.out.dj.eb
  have hlf := blk_lt HK6.out.fb
  refine pure_ (i := 0) (N := (some 36)) (v := ?_) (a' := ?_) #[true, false, false, false, false, false, false, false, false, false, false, false, false, false, false, false, false, false, false, false, false, false, false] rfl rfl (any_of HT_.out (by kernel_rfl)) (fun _ _ _ h => h) (Or.inl ⟨by rfl, ?_⟩) ?_ ?_
  rotate_left
  · intro w'
    go_simp
    with_reducible rfl
  rotate_left
  · simp only [Act.put, List.setIfInBounds_toArray, List.set_cons_zero, List.set_cons_succ, i64_w, i32_w]
    rfl
  refine pure_ (i := 1) (N := (some 37)) (v := ?_) (a' := ?_) #[true, true, false, false, false, false, false, false, false, false, false, false, false, false, false, false, false, false, false, false, false, false, false] rfl rfl (any_of HT_.out (by kernel_rfl)) (fun _ _ _ h => h) (Or.inl ⟨by rfl, ?_⟩) ?_ ?_
  rotate_left
  · intro w'
    go_simp
    with_reducible rfl
  rotate_left
  · simp only [Act.put, List.setIfInBounds_toArray, List.set_cons_zero, List.set_cons_succ, i64_w, i32_w]
    rfl
  refine pure_ (i := 2) (N := (some 38)) (v := ?_) (a' := ?_) #[true, true, true, false, false, false, false, false, false, false, false, false, false, false, false, false, false, false, false, false, false, false, false] rfl rfl (any_of HT_.out (by kernel_rfl)) (fun _ _ _ h => h) (Or.inl ⟨by rfl, ?_⟩) ?_ ?_
  rotate_left
  · intro w'
    go_simp
    with_reducible rfl
  rotate_left
  · simp only [Act.put, List.setIfInBounds_toArray, List.set_cons_zero, List.set_cons_succ, i64_w, i32_w]
    rfl
  refine pure_ (i := 4) (N := (some 40)) (v := ?_) (a' := ?_) #[true, true, true, false, true, false, false, false, false, false, false, false, false, false, false, false, false, false, false, false, false, false, false] rfl rfl (any_of HT_.out (by kernel_rfl)) (fun _ _ _ h => h) (Or.inl ⟨by rfl, ?_⟩) ?_ ?_
  rotate_left
  · intro w'
    go_simp
    with_reducible rfl
  rotate_left
  · simp only [Act.put, List.setIfInBounds_toArray, List.set_cons_zero, List.set_cons_succ, i64_w, i32_w]
    rfl
  refine pure_ (i := 18) (N := (some 54)) (v := ?_) (a' := ?_) #[true, true, true, false, true, false, false, false, false, false, false, false, false, false, false, false, false, false, true, false, false, false, false] rfl rfl (any_of HT_.out (by kernel_rfl)) (fun _ _ _ h => h) (Or.inl ⟨by rfl, ?_⟩) ?_ ?_
  rotate_left
  · intro w'
    go_simp
    with_reducible rfl
  rotate_left
  · simp only [Act.put, List.setIfInBounds_toArray, List.set_cons_zero, List.set_cons_succ, i64_w, i32_w]
    rfl
  refine take_ (i := 3) (N := (some 39)) (v := ?_) (a' := ?_) #[true, true, true, true, true, false, false, false, false, false, false, false, false, false, false, false, false, false, true, false, false, false, false] rfl rfl (take_ofW HT_.out HW_.out (by kernel_rfl)) (fun _ _ _ h => h) (Or.inl ⟨by rfl, ?_⟩) hHeld ?_ ?_
  rotate_left
  · rintro w' ⟨s0, s1, s2, s3⟩
    go_simp
    with_reducible rfl
  rotate_left
  · simp only [Act.put, List.setIfInBounds_toArray, List.set_cons_zero, List.set_cons_succ, i64_w, i32_w]
    rfl
  refine take_ (i := 5) (N := (some 41)) (v := ?_) (a' := ?_) #[true, true, true, true, true, true, false, false, false, false, false, false, false, false, false, false, false, false, true, false, false, false, false] rfl rfl (take_ofW HT_.out HW_.out (by kernel_rfl)) (fun _ _ _ h => h) (Or.inl ⟨by rfl, ?_⟩) hHeld ?_ ?_
  rotate_left
  · rintro w' ⟨s0, s1, s2, s3⟩
    go_simp
    with_reducible rfl
  rotate_left
  · simp only [Act.put, List.setIfInBounds_toArray, List.set_cons_zero, List.set_cons_succ, i64_w, i32_w]
    rfl
  refine pure_ (i := 6) (N := (some 42)) (v := ?_) (a' := ?_) #[true, true, true, true, true, true, true, false, false, false, false, false, false, false, false, false, false, false, true, false, false, false, false] rfl rfl (any_of HT_.out (by kernel_rfl)) (fun _ _ _ h => h) (Or.inl ⟨by rfl, ?_⟩) ?_ ?_
  rotate_left
  · intro w'
    go_simp
    with_reducible rfl
  rotate_left
  · simp only [Act.put, List.setIfInBounds_toArray, List.set_cons_zero, List.set_cons_succ, i64_w, i32_w]
    rfl
  refine pure_ (i := 7) (N := (some 43)) (v := ?_) (a' := ?_) #[true, true, true, true, true, true, true, true, false, false, false, false, false, false, false, false, false, false, true, false, false, false, false] rfl rfl (any_of HT_.out (by kernel_rfl)) (fun _ _ _ h => h) (Or.inl ⟨by rfl, ?_⟩) ?_ ?_
  rotate_left
  · intro w'
    go_simp
    with_reducible rfl
  rotate_left
  · simp only [Act.put, List.setIfInBounds_toArray, List.set_cons_zero, List.set_cons_succ, i64_w, i32_w]
    rfl
  refine pure_ (i := 8) (N := (some 44)) (v := ?_) (a' := ?_) #[true, true, true, true, true, true, true, true, true, false, false, false, false, false, false, false, false, false, true, false, false, false, false] rfl rfl (any_of HT_.out (by kernel_rfl)) (fun _ _ _ h => h) (Or.inl ⟨by rfl, ?_⟩) ?_ ?_
  rotate_left
  · intro w'
    go_simp
    with_reducible rfl
  rotate_left
  · simp only [Act.put, List.setIfInBounds_toArray, List.set_cons_zero, List.set_cons_succ, i64_w, i32_w]
    rfl
  refine pure_ (i := 9) (N := (some 45)) (v := ?_) (a' := ?_) #[true, true, true, true, true, true, true, true, true, true, false, false, false, false, false, false, false, false, true, false, false, false, false] rfl rfl (any_of HT_.out (by kernel_rfl)) (fun _ _ _ h => h) (Or.inl ⟨by rfl, ?_⟩) ?_ ?_
  rotate_left
  · intro w'
    go_simp
    with_reducible rfl
  rotate_left
  · simp only [Act.put, List.setIfInBounds_toArray, List.set_cons_zero, List.set_cons_succ, i64_w, i32_w]
    rfl
  refine take_ (i := 10) (N := (some 46)) (v := ?_) (a' := ?_) #[true, true, true, true, true, true, true, true, true, true, true, false, false, false, false, false, false, false, true, false, false, false, false] rfl rfl (take_ofW HT_.out HW_.out (by kernel_rfl)) (fun _ _ _ h => h) (Or.inl ⟨by rfl, ?_⟩) hHeld ?_ ?_
  rotate_left
  · rintro w' ⟨s0, s1, s2, s3⟩
    go_simp
    with_reducible rfl
  rotate_left
  · simp only [Act.put, List.setIfInBounds_toArray, List.set_cons_zero, List.set_cons_succ, i64_w, i32_w]
    rfl
  refine take_ (i := 11) (N := (some 47)) (v := ?_) (a' := ?_) #[true, true, true, true, true, true, true, true, true, true, true, true, false, false, false, false, false, false, true, false, false, false, false] rfl rfl (take_ofW HT_.out HW_.out (by kernel_rfl)) (fun _ _ _ h => h) (Or.inl ⟨by rfl, ?_⟩) hHeld ?_ ?_
  rotate_left
  · rintro w' ⟨s0, s1, s2, s3⟩
    go_simp
    with_reducible rfl
  rotate_left
  · simp only [Act.put, List.setIfInBounds_toArray, List.set_cons_zero, List.set_cons_succ, i64_w, i32_w]
    rfl
  refine pure_ (i := 12) (N := (some 48)) (v := ?_) (a' := ?_) #[true, true, true, true, true, true, true, true, true, true, true, true, true, false, false, false, false, false, true, false, false, false, false] rfl rfl (any_of HT_.out (by kernel_rfl)) (fun _ _ _ h => h) (Or.inl ⟨by rfl, ?_⟩) ?_ ?_
  rotate_left
  · intro w'
    go_simp
    with_reducible rfl
  rotate_left
  · simp only [Act.put, List.setIfInBounds_toArray, List.set_cons_zero, List.set_cons_succ, i64_w, i32_w]
    rfl
  refine pure_ (i := 13) (N := (some 49)) (v := ?_) (a' := ?_) #[true, true, true, true, true, true, true, true, true, true, true, true, true, true, false, false, false, false, true, false, false, false, false] rfl rfl (any_of HT_.out (by kernel_rfl)) (fun _ _ _ h => h) (Or.inl ⟨by rfl, ?_⟩) ?_ ?_
  rotate_left
  · intro w'
    go_simp
    with_reducible rfl
  rotate_left
  · simp only [Act.put, List.setIfInBounds_toArray, List.set_cons_zero, List.set_cons_succ, i64_w, i32_w]
    rfl
  refine take_ (i := 14) (N := (some 50)) (v := ?_) (a' := ?_) #[true, true, true, true, true, true, true, true, true, true, true, true, true, true, true, false, false, false, true, false, false, false, false] rfl rfl (take_ofW HT_.out HW_.out (by kernel_rfl)) (fun _ _ _ h => h) (Or.inl ⟨by rfl, ?_⟩) hHeld ?_ ?_
  rotate_left
  · rintro w' ⟨s0, s1, s2, s3⟩
    go_simp
    with_reducible rfl
  rotate_left
  · simp only [Act.put, List.setIfInBounds_toArray, List.set_cons_zero, List.set_cons_succ, i64_w, i32_w]
    rfl
  refine pure_ (i := 15) (N := (some 51)) (v := ?_) (a' := ?_) #[true, true, true, true, true, true, true, true, true, true, true, true, true, true, true, true, false, false, true, false, false, false, false] rfl rfl (any_of HT_.out (by kernel_rfl)) (fun _ _ _ h => h) (Or.inl ⟨by rfl, ?_⟩) ?_ ?_
  rotate_left
  · intro w'
    go_simp
    with_reducible rfl
  rotate_left
  · simp only [Act.put, List.setIfInBounds_toArray, List.set_cons_zero, List.set_cons_succ, i64_w, i32_w]
    rfl
  refine pure_ (i := 16) (N := (some 52)) (v := ?_) (a' := ?_) #[true, true, true, true, true, true, true, true, true, true, true, true, true, true, true, true, true, false, true, false, false, false, false] rfl rfl (any_of HT_.out (by kernel_rfl)) (fun _ _ _ h => h) (Or.inl ⟨by rfl, ?_⟩) ?_ ?_
  rotate_left
  · intro w'
    go_simp
    with_reducible rfl
  rotate_left
  · simp only [Act.put, List.setIfInBounds_toArray, List.set_cons_zero, List.set_cons_succ, i64_w, i32_w]
    rfl
  refine take_ (i := 17) (N := (some 53)) (v := ?_) (a' := ?_) #[true, true, true, true, true, true, true, true, true, true, true, true, true, true, true, true, true, true, true, false, false, false, false] rfl rfl (take_ofW HT_.out HW_.out (by kernel_rfl)) (fun _ _ _ h => h) (Or.inl ⟨by rfl, ?_⟩) hHeld ?_ ?_
  rotate_left
  · rintro w' ⟨s0, s1, s2, s3⟩
    go_simp
    with_reducible rfl
  rotate_left
  · simp only [Act.put, List.setIfInBounds_toArray, List.set_cons_zero, List.set_cons_succ, i64_w, i32_w]
    rfl
  refine take_ (i := 19) (N := (some 55)) (v := ?_) (a' := ?_) #[true, true, true, true, true, true, true, true, true, true, true, true, true, true, true, true, true, true, true, true, false, false, false] rfl rfl (take_ofW HT_.out HW_.out (by kernel_rfl)) (fun _ _ _ h => h) (Or.inl ⟨by rfl, ?_⟩) hHeld ?_ ?_
  rotate_left
  · rintro w' ⟨s0, s1, s2, s3⟩
    go_simp
    with_reducible rfl
  rotate_left
  · simp only [Act.put, List.setIfInBounds_toArray, List.set_cons_zero, List.set_cons_succ, i64_w, i32_w]
    rfl
  refine one_ (i := 20) (N := (some 56)) #[true, true, true, true, true, true, true, true, true, true, true, true, true, true, true, true, true, true, true, true, true, false, false] rfl rfl (one_of HT_.out (by kernel_rfl)) (by decide) (fun K hK => ?_)
  refine call_ (f := 75) #[pA b, .agg #[.int .i64 e.hn, .int .i64 e.hg], .int .i64 2] (by rfl) rfl (by go_simp <;> rfl) ?_
  refine (end_new b e.hn e.hg 2 w5).mono ?_
  rintro r w6 ⟨sb, xb, hb, rfl, h3, hb2⟩
  refine ⟨_, rfl, ?_⟩
  have HE := Aside0.mk (And.intro h3 (HK6.out.step hb2))
  clear h3 hb2
  refine hK.out _ _ HE.out.2.cells (fun hHeld => ?_)
  clear hK K
  refine norm_ (a' := ?_) ?_ ?_
  rotate_left
  · show Act.put _ (some 56) _ = _
    simp only [Act.put, List.setIfInBounds_toArray, List.set_cons_zero, List.set_cons_succ, i64_w, i32_w]
    rfl
  refine last_ (i := 21) (N := (some 57)) #[true, true, true, true, true, true, true, true, true, true, true, true, true, true, true, true, true, true, true, true, true, true, false] rfl rfl (one_of HT_.out (by kernel_rfl)) (by decide) (fun K hK => ?_)
  refine call_ (f := 73) #[.bool (decide (e.t ≤ m.clk)), .func (.func 99) #[] #[pA sb, pA xb, pA hb]] (by rfl) rfl (by first | (go_simp <;> rfl) | (simp only [HTC.out]; go_simp <;> rfl)) ?_
  refine (un_end (decide (e.t ≤ m.clk)) 2 e.hn e.hg (by have := HN.out; omega) HW.out.1 HW.out.2.1 HE.out.2.dj.md HE.out.1).mono ?_
  rintro r w7 ⟨rfl, hm, hf⟩
  refine ⟨_, rfl, ?_⟩
  have HM := Aside0.mk (And.intro hm (HE.out.2.dj.fr.trans hf))
  clear hm hf
  refine hK.out _ _ ?_
  clear hK K
  refine norm_ (a' := ?_) ?_ ?_
  rotate_left
  · show Act.put _ (some 57) _ = _
    simp only [Act.put, List.setIfInBounds_toArray, List.set_cons_zero, List.set_cons_succ, i64_w, i32_w]
    rfl
  refine pure_ (i := 22) (N := (some 4)) (v := ?_) (a' := ?_) #[true, true, true, true, true, true, true, true, true, true, true, true, true, true, true, true, true, true, true, true, true, true, true] rfl rfl (any_of HT_.out (by kernel_rfl)) (fun _ _ _ h => h) (Or.inl ⟨by rfl, ?_⟩) ?_ ?_
  rotate_left
  · intro w'
    go_simp
    with_reducible rfl
  rotate_left
  · simp only [Act.put, List.setIfInBounds_toArray, List.set_cons_zero, List.set_cons_succ, i64_w, i32_w]
    rfl
  refine done_ (done_of HT_.out (by kernel_rfl)) ?_
  go_wp2
  go_ret
  exact DoPost.of HF.out rfl HM.out.1 HM.out.2

theorem do_any {w : World} {B b n m1 m2 : Nat} {m : Md} (e : Ev) (hw : (Lit.int .i64 e.hn).wf = true ∧ (Lit.int .i64 e.hg).wf = true ∧ (Lit.int .i64 e.nn).wf = true ∧ (Lit.int .i64 e.ng).wf = true) (hn : n + 1 ≤ 1000000) (hwl : ∀ x, (Lit.int .i64 ((m.lst x).getD 0)).wf = true) (h : MdIs w B b n m m1 m2) :
    Calls Try.prog 43 #[pA b, .agg (evA e)] w (DoPost w B b n m1 m2 (doF m e)) := by
  cases hr : rightJ e with
  | false => exact do_wrong e hw hn hwl h hr
  | true =>
    have hk : e.k = 1 ∨ e.k = 2 ∨ e.k = 3 ∨ e.k = 4 ∨ e.k = 5 := by
      have h := hr
      unfold rightJ Ev.evRight Ev.kindB at h
      simp at h
      omega
    rcases hk with hk | hk | hk | hk | hk
    · exact do_tick e hw hn hwl h hr hk
    · exact do_other e hw hn hwl h hr (.inl hk)
    · exact do_point e hw hn hwl h hr hk
    · by_cases ha : m.st e.h = 1
      · by_cases hd : m.dl e.h ≤ e.t
        · exact do_fire e hw hn hwl h hr hk ha hd
        · exact do_fire_early e hw hn hwl h hr hk ha hd
      · exact do_fire_no e hw hn hwl h hr hk ha
    · exact do_other e hw hn hwl h hr (.inr hk)

end Go.Proofs.Ythniclbmpeklmaa.Ju
