/- What is proved: a part of the way to the statement VerdictFrontSaid: VdH, VdJ, VdS, VdT, VdU, VdV, VdQ, VdW, KLax0, KLax1, La, KVsx0, KVsx1; no conditions. Put together by a program of this session (claimv.py). -/
import Derived.Deep.LoopGhost
import Derived.Deep.AppendLies
import Derived.Maps.RangeWalk
import Derived.Deep.DeepCutAuto
import Derived.Test.YthljanmfanppdaaProg
import Derived.Below
import Derived.Deep.Draws
import Derived.Maps.AppendAt
import Derived.OwnWalk
import Derived.Laws.BytesArg
import Derived.Laws.MakeOwn
import Derived.Laws.OwnMore
import Derived.Deep.OwnRows
import Derived.Tactics
import Derived.Lib.ConvBytes
import Derived.Laws.Slices
import Derived.WalkKit
import Derived.KernelRfl
import Derived.RowKit3
import Derived.Deep.QuietTactic
import Derived.BigQuiet
import Derived.WideLaws
import Derived.Deep.CutBlock
import Derived.Deep.RegionHeld3
import Derived.Laws.Rows
import Derived.Lib.AppendStr
import Derived.ArgAppend
import Derived.Laws.IdiomCopy
import Derived.OrdersHeld
import Derived.Laws.BitsLemmas
import Derived.RowKit
import Derived.Test.YthljanmfanppdaaVvf3
section
set_option maxHeartbeats 4000000
set_option maxRecDepth 100000
namespace Go.Proofs.Ythljanmfanppdaa.Vd
open Go.RowKit Go.Maps Go.Proofs.YthljanmfanppdaaW.PrintWords Go.Proofs.YthljanmfanppdaaW.PrintLast Go.Proofs.YthljanmfanppdaaW.PrintMore Go.Proofs.Ythljanmfanppdaa.Mp Go.Proofs.Ythljanmfanppdaa.Bk
set_option linter.unusedVariables false
set_option linter.unusedSimpArgs false
theorem vright_run (e : Ev7) (W : World) : Calls Try.prog 63 #[.agg e.cells] W fun r w' => r = .returned (.bool (rightV e)) ∧ Below W.heap.size W w' := right_calls e.k e.wk e.op e.cn e.t e.dr e.er W
theorem wp_store {κ : Type} [DecidableEq κ] {c : κ → Value} {P : Program} {k e : TypeId} {w : World} {b s : Nat} {f : κ → Option Value} {o : Oper} {a : Act} {K : Act → World → Prop} {Q : Exit → Act → World → Prop} (hc : ∀ x y, c x = c y → x = y) (m x v : Operand) (t : TypeId) (hop : o.op = Op.mapUpdate t m x v) (h : MapIs c P k w b s f) (KK : Keyed P k) (ht : P.underlying t = some (.map k e)) (hn : s < maxLen) {y : κ} {kl : Lit} (hkey : keyOf P k (c y) = some kl) {val : Value}
  (hm : a.eval m = .map (some b)) (hx : a.eval x = c y) (hv : a.eval v = val) (hK : ∀ w', MapIs c P k w' b (if (f y).isSome then s else s + 1) (fun l => if l = y then some val else f l) → w.grownBy w' (some b) → K (a.put o.dst undef) w') : o.wp P a w K Q := by
 obtain ⟨w', hrun, h1, h2⟩ := h.store hc KK ht hn hkey val
 unfold Oper.wp
 simp [execOp, hop, hm, hx, hv, hrun, Result.andThen]
 exact hK w' h1 h2.grown
def vhR.T1 : Bool × List (List Nat × List Nat) := (true, [([], []), ([0], [0]), ([1], [1]), ([2, 1], [2]), ([3], [3]), ([4, 3], [3, 4]), ([3], [3]), ([6, 3], [3, 6]), ([7, 3], [3, 7]), ([8, 3], [3, 8]), ([5, 9, 3], [3, 5, 9]), ([3, 10], [3, 10])])
def vhR.B1 : List Nat := [0, 1, 3, 7, 15, 31, 15, 79, 207, 463, 1023, 2047]
theorem vhR.tab1 : rtab .any (opsOf Try.f51 1) = vhR.T1 := by kernel_rfl
theorem vhR.bits1 : waitsOk vhR.T1.2 vhR.B1 = true := by kernel_rfl
def vhR.T3 : Bool × List (List Nat × List Nat) := (true, [([], []), ([0], [0]), ([1], [1]), ([2], [2]), ([], []), ([4], [4]), ([3, 5], [3, 5]), ([6], [6]), ([7], [7]), ([7], [7]), ([], []), ([10, 8, 0, 1, 2, 3, 4, 5, 6, 7, 8, 10], [8, 10]), ([9, 11, 0, 1, 2, 3, 4, 5, 6, 7, 8, 9, 10, 11], [9])])
def vhR.B3 : List Nat := [0, 1, 3, 7, 0, 16, 63, 127, 255, 255, 0, 1535, 4095]
theorem vhR.tab3 : rtab .any (opsOf Try.f51 3) = vhR.T3 := by kernel_rfl
theorem vhR.bits3 : waitsOk vhR.T3.2 vhR.B3 = true := by kernel_rfl
def vhR.T6 : Bool × List (List Nat × List Nat) := (true, [([], []), ([0], [0]), ([1], [1]), ([2], [2]), ([], []), ([3, 4], [3, 4]), ([5, 5, 0, 1, 2, 3, 4, 5], [5])])
def vhR.B6 : List Nat := [0, 1, 3, 7, 0, 31, 63]
theorem vhR.tab6 : rtab .any (opsOf Try.f51 6) = vhR.T6 := by kernel_rfl
theorem vhR.bits6 : waitsOk vhR.T6.2 vhR.B6 = true := by kernel_rfl
def vhR.T10 : Bool × List (List Nat × List Nat) := (true, [([], []), ([0], [0]), ([1], [1]), ([2], [2]), ([], []), ([4], [4]), ([], []), ([], []), ([7], [7]), ([8], [8]), ([9], [9]), ([10], [10]), ([6, 11], [6, 11]), ([3, 5, 12, 11, 0, 1, 2, 3, 4, 5, 6, 7, 8, 9, 10, 11, 12], [3, 5, 12])])
def vhR.B10 : List Nat := [0, 1, 3, 7, 0, 16, 0, 0, 128, 384, 896, 1920, 4032, 8191]
theorem vhR.tab10 : rtab .any (opsOf Try.f51 10) = vhR.T10 := by kernel_rfl
theorem vhR.bits10 : waitsOk vhR.T10.2 vhR.B10 = true := by kernel_rfl
def vhR.T15 : Bool × List (List Nat × List Nat) := (true, [([], []), ([0], [0]), ([1], [1]), ([2], [2]), ([], []), ([3, 4], [3, 4]), ([5, 5, 0, 1, 2, 3, 4, 5], [5])])
def vhR.B15 : List Nat := [0, 1, 3, 7, 0, 31, 63]
theorem vhR.tab15 : rtab .any (opsOf Try.f51 15) = vhR.T15 := by kernel_rfl
theorem vhR.bits15 : waitsOk vhR.T15.2 vhR.B15 = true := by kernel_rfl
theorem vhear_wrong {w : World} {B q g m wm n : Nat} {c : Cf} {b : Vb} (e : Ev7) (hx : (Lit.int .i64 e.cn).wf = true) (hwk : (Lit.int .i64 e.wk).wf = true) (hn : n + 1 ≤ 1000000) (h : VbIs w B q g m wm n c b) (hr : rightV e = false)  :
  Calls Try.prog 51 #[pA q, .agg e.cells] w (VPost w B q g m wm n c (hearV c b e)) := by
 have hu0 := Try.underlying89
 have hu1 := Try.underlying60
 have hu2 := Try.underlying124
 have HF := Aside0.mk (show hearV c b e = (b, 8) by unfold hearV; rw [if_pos (.inl hr)])
 have CR := Aside0.mk (fun W => vright_run e W)
 rw [hr] at CR
 have HX := Aside0.mk hx
 have HWK := Aside0.mk hwk
 have HN := Aside0.mk hn
 have HJ := Aside0.mk (show Vj w (w.alloc (.cells e.cells 60)) B q g m wm n c b e w.heap.size from ⟨h.alloc _, blk_new w _, (Fr.refl w _).alloc _⟩)
 clear hx hwk hn h hr 
 have hcb := fun i => HJ.out.be.cell i
 have hce := fun i => blk_cell HJ.out.eb_ i
 have hlb := HJ.out.be.lt
 have hle := blk_lt HJ.out.eb_
 go_enter Try.func51, Try.ntmps51
 go_upto_region 1 with (fail)
 refine start_ (n := 12) (S := (fun w' => (∀ i, w'.cell? ⟨q, i, none⟩ = (vbA g c.c0 wm)[i]?) ∧ (∀ i, w'.cell? ⟨w.heap.size, i, none⟩ = (e.cells)[i]?))) (ds := []) #[ff,ff,ff,ff,ff,ff,ff,ff,ff,ff,ff,ff] (by kernel_rfl) rfl rfl HJ.out.drew.cells (fun hHeld => ?_)
 refine with_tabW vhR.tab1 vhR.bits1 (fun HT_ HW_ => ?_)
 have HJ2 := Aside0.mk HJ.out.drew
 generalize World.drew _ = w2 at HJ2 hHeld ⊢
 clear hcb hce hlb hle
 have hlb := HJ2.out.be.lt
 have hle := blk_lt HJ2.out.eb_
 refine take_ (i := 0) (N := (some 7)) (v := ?_) (a' := ?_) #[tt,ff,ff,ff,ff,ff,ff,ff,ff,ff,ff,ff] rfl rfl (take_ofW HT_.out HW_.out (by kernel_rfl)) (fun _ _ _ h => h) (Or.inl ⟨by rfl, ?_⟩) hHeld ?_ ?_
 rotate_left
 ·rintro w' ⟨s0, s1⟩
  go_simp
  with_reducible rfl
 rotate_left
 ·simp only [Act.put, sQ0, sQ1, sQ2, i64_w]
  rfl
 refine one_ (i := 1) (N := (some 8)) #[tt,tt,ff,ff,ff,ff,ff,ff,ff,ff,ff,ff] rfl rfl (one_of HT_.out (by kernel_rfl)) (by decide) (fun K hK => ?_)
 refine call_ (f := 63) #[.agg e.cells] (by rfl) rfl (by go_simp <;> rfl) ?_
 refine (CR.out w2).mono ?_
 rintro r w3 ⟨rfl, hb⟩
 refine ⟨_, rfl, ?_⟩
 have HJ3 := Aside0.mk (HJ2.out.step hb)
 clear hb
 refine hK.out _ _ HJ3.out.cells (fun hHeld => ?_)
 clear hK K
 refine norm_ (a' := ?_) ?_ ?_
 rotate_left
 ·show Act.put _ (some 8) _ = _
  simp only [Act.put, sQ0, sQ1, sQ2, i64_w]
  rfl
 refine pure_ (i := 2) (N := (some 9)) (v := ?_) (a' := ?_) #[tt,tt,tt,ff,ff,ff,ff,ff,ff,ff,ff,ff] rfl rfl (any_of HT_.out (by kernel_rfl)) (fun _ _ _ h => h) (Or.inl ⟨by rfl, ?_⟩) ?_ ?_
 rotate_left
 ·intro w'
  go_simp
  with_reducible rfl
 rotate_left
 ·simp only [Act.put, sQ0, sQ1, sQ2, i64_w]
  rfl
 refine pure_ (i := 3) (N := (some 10)) (v := ?_) (a' := ?_) #[tt,tt,tt,tt,ff,ff,ff,ff,ff,ff,ff,ff] rfl rfl (any_of HT_.out (by kernel_rfl)) (fun _ _ _ h => h) (Or.inl ⟨by rfl, ?_⟩) ?_ ?_
 rotate_left
 ·intro w'
  go_simp
  with_reducible rfl
 rotate_left
 ·simp only [Act.put, sQ0, sQ1, sQ2, i64_w]
  rfl
 refine pure_ (i := 4) (N := (some 11)) (v := undef) (a' := ?_) #[tt,tt,tt,tt,tt,ff,ff,ff,ff,ff,ff,ff] rfl rfl (any_of HT_.out (by kernel_rfl)) (fun _ _ _ h => h) (Or.inr ⟨by rfl, rfl⟩) ?_ ?_
 rotate_left
 ·simp only [Act.put, sQ0, sQ1, sQ2, i64_w]
  rfl
 refine pure_ (i := 5) (N := (some 12)) (v := undef) (a' := ?_) #[tt,tt,tt,tt,tt,tt,ff,ff,ff,ff,ff,ff] rfl rfl (any_of HT_.out (by kernel_rfl)) (fun _ _ _ h => h) (Or.inr ⟨by rfl, rfl⟩) ?_ ?_
 rotate_left
 ·simp only [Act.put, sQ0, sQ1, sQ2, i64_w]
  rfl
 refine pure_ (i := 6) (N := (some 13)) (v := undef) (a' := ?_) #[tt,tt,tt,tt,tt,tt,tt,ff,ff,ff,ff,ff] rfl rfl (any_of HT_.out (by kernel_rfl)) (fun _ _ _ h => h) (Or.inr ⟨by rfl, rfl⟩) ?_ ?_
 rotate_left
 ·simp only [Act.put, sQ0, sQ1, sQ2, i64_w]
  rfl
 refine pure_ (i := 7) (N := (some 14)) (v := undef) (a' := ?_) #[tt,tt,tt,tt,tt,tt,tt,tt,ff,ff,ff,ff] rfl rfl (any_of HT_.out (by kernel_rfl)) (fun _ _ _ h => h) (Or.inr ⟨by rfl, rfl⟩) ?_ ?_
 rotate_left
 ·simp only [Act.put, sQ0, sQ1, sQ2, i64_w]
  rfl
 refine pure_ (i := 8) (N := (some 15)) (v := undef) (a' := ?_) #[tt,tt,tt,tt,tt,tt,tt,tt,tt,ff,ff,ff] rfl rfl (any_of HT_.out (by kernel_rfl)) (fun _ _ _ h => h) (Or.inr ⟨by rfl, rfl⟩) ?_ ?_
 rotate_left
 ·simp only [Act.put, sQ0, sQ1, sQ2, i64_w]
  rfl
 refine pure_ (i := 9) (N := (some 16)) (v := undef) (a' := ?_) #[tt,tt,tt,tt,tt,tt,tt,tt,tt,tt,ff,ff] rfl rfl (any_of HT_.out (by kernel_rfl)) (fun _ _ _ h => h) (Or.inr ⟨by rfl, rfl⟩) ?_ ?_
 rotate_left
 ·simp only [Act.put, sQ0, sQ1, sQ2, i64_w]
  rfl
 refine pure_ (i := 10) (N := (some 17)) (v := undef) (a' := ?_) #[tt,tt,tt,tt,tt,tt,tt,tt,tt,tt,tt,ff] rfl rfl (any_of HT_.out (by kernel_rfl)) (fun _ _ _ h => h) (Or.inr ⟨by rfl, rfl⟩) ?_ ?_
 rotate_left
 ·simp only [Act.put, sQ0, sQ1, sQ2, i64_w]
  rfl
 refine pure_ (i := 11) (N := (some 18)) (v := ?_) (a' := ?_) #[tt,tt,tt,tt,tt,tt,tt,tt,tt,tt,tt,tt] rfl rfl (any_of HT_.out (by kernel_rfl)) (fun _ _ _ h => h) (Or.inl ⟨by rfl, ?_⟩) ?_ ?_
 rotate_left
 ·intro w'
  go_simp
  with_reducible rfl
 rotate_left
 ·simp only [Act.put, sQ0, sQ1, sQ2, i64_w]
  rfl
 refine done_ (done_of HT_.out (by kernel_rfl)) ?_
 clear hHeld
 clear hlb hle
 have hcb := fun i => HJ3.out.be.cell i
 have hce := fun i => blk_cell HJ3.out.eb_ i
 have hlb := HJ3.out.be.lt
 have hle := blk_lt HJ3.out.eb_
 go_wp2
 go_ret
 exact VPost.of HF.out rfl (HJ3.out.be.up (by omega)) HJ3.out.fr
theorem vhear_worker {w : World} {B q g m wm n : Nat} {c : Cf} {b : Vb} (e : Ev7) (hx : (Lit.int .i64 e.cn).wf = true) (hwk : (Lit.int .i64 e.wk).wf = true) (hn : n + 1 ≤ 1000000) (h : VbIs w B q g m wm n c b) (hr : rightV e = true) (hnw : c.c0 ≤ e.wk) :
  Calls Try.prog 51 #[pA q, .agg e.cells] w (VPost w B q g m wm n c (hearV c b e)) := by
 have hu0 := Try.underlying89
 have hu1 := Try.underlying60
 have hu2 := Try.underlying124
 have HF := Aside0.mk (show hearV c b e = (b, 8) by unfold hearV; rw [if_pos (.inr hnw)])
 have d0 : decide (e.wk ≥ c.c0) = true := decide_eq_true hnw
 have CR := Aside0.mk (fun W => vright_run e W)
 rw [hr] at CR
 have HX := Aside0.mk hx
 have HWK := Aside0.mk hwk
 have HN := Aside0.mk hn
 have HJ := Aside0.mk (show Vj w (w.alloc (.cells e.cells 60)) B q g m wm n c b e w.heap.size from ⟨h.alloc _, blk_new w _, (Fr.refl w _).alloc _⟩)
 clear hx hwk hn h hr hnw
 have hcb := fun i => HJ.out.be.cell i
 have hce := fun i => blk_cell HJ.out.eb_ i
 have hlb := HJ.out.be.lt
 have hle := blk_lt HJ.out.eb_
 go_enter Try.func51, Try.ntmps51
 go_upto_region 1 with (fail)
 refine start_ (n := 12) (S := (fun w' => (∀ i, w'.cell? ⟨q, i, none⟩ = (vbA g c.c0 wm)[i]?) ∧ (∀ i, w'.cell? ⟨w.heap.size, i, none⟩ = (e.cells)[i]?))) (ds := []) #[ff,ff,ff,ff,ff,ff,ff,ff,ff,ff,ff,ff] (by kernel_rfl) rfl rfl HJ.out.drew.cells (fun hHeld => ?_)
 refine with_tabW vhR.tab1 vhR.bits1 (fun HT_ HW_ => ?_)
 have HJ2 := Aside0.mk HJ.out.drew
 generalize World.drew _ = w2 at HJ2 hHeld ⊢
 clear hcb hce hlb hle
 have hlb := HJ2.out.be.lt
 have hle := blk_lt HJ2.out.eb_
 refine take_ (i := 0) (N := (some 7)) (v := ?_) (a' := ?_) #[tt,ff,ff,ff,ff,ff,ff,ff,ff,ff,ff,ff] rfl rfl (take_ofW HT_.out HW_.out (by kernel_rfl)) (fun _ _ _ h => h) (Or.inl ⟨by rfl, ?_⟩) hHeld ?_ ?_
 rotate_left
 ·rintro w' ⟨s0, s1⟩
  go_simp
  with_reducible rfl
 rotate_left
 ·simp only [Act.put, sQ0, sQ1, sQ2, i64_w]
  rfl
 refine one_ (i := 1) (N := (some 8)) #[tt,tt,ff,ff,ff,ff,ff,ff,ff,ff,ff,ff] rfl rfl (one_of HT_.out (by kernel_rfl)) (by decide) (fun K hK => ?_)
 refine call_ (f := 63) #[.agg e.cells] (by rfl) rfl (by go_simp <;> rfl) ?_
 refine (CR.out w2).mono ?_
 rintro r w3 ⟨rfl, hb⟩
 refine ⟨_, rfl, ?_⟩
 have HJ3 := Aside0.mk (HJ2.out.step hb)
 clear hb
 refine hK.out _ _ HJ3.out.cells (fun hHeld => ?_)
 clear hK K
 refine norm_ (a' := ?_) ?_ ?_
 rotate_left
 ·show Act.put _ (some 8) _ = _
  simp only [Act.put, sQ0, sQ1, sQ2, i64_w]
  rfl
 refine pure_ (i := 2) (N := (some 9)) (v := ?_) (a' := ?_) #[tt,tt,tt,ff,ff,ff,ff,ff,ff,ff,ff,ff] rfl rfl (any_of HT_.out (by kernel_rfl)) (fun _ _ _ h => h) (Or.inl ⟨by rfl, ?_⟩) ?_ ?_
 rotate_left
 ·intro w'
  go_simp
  with_reducible rfl
 rotate_left
 ·simp only [Act.put, sQ0, sQ1, sQ2, i64_w]
  rfl
 refine pure_ (i := 3) (N := (some 10)) (v := ?_) (a' := ?_) #[tt,tt,tt,tt,ff,ff,ff,ff,ff,ff,ff,ff] rfl rfl (any_of HT_.out (by kernel_rfl)) (fun _ _ _ h => h) (Or.inl ⟨by rfl, ?_⟩) ?_ ?_
 rotate_left
 ·intro w'
  go_simp
  with_reducible rfl
 rotate_left
 ·simp only [Act.put, sQ0, sQ1, sQ2, i64_w]
  rfl
 refine pure_ (i := 4) (N := (some 11)) (v := ?_) (a' := ?_) #[tt,tt,tt,tt,tt,ff,ff,ff,ff,ff,ff,ff] rfl rfl (any_of HT_.out (by kernel_rfl)) (fun _ _ _ h => h) (Or.inl ⟨by rfl, ?_⟩) ?_ ?_
 rotate_left
 ·intro w'
  go_simp
  with_reducible rfl
 rotate_left
 ·simp only [Act.put, sQ0, sQ1, sQ2, i64_w]
  rfl
 refine pure_ (i := 6) (N := (some 13)) (v := ?_) (a' := ?_) #[tt,tt,tt,tt,tt,ff,tt,ff,ff,ff,ff,ff] rfl rfl (any_of HT_.out (by kernel_rfl)) (fun _ _ _ h => h) (Or.inl ⟨by rfl, ?_⟩) ?_ ?_
 rotate_left
 ·intro w'
  go_simp
  with_reducible rfl
 rotate_left
 ·simp only [Act.put, sQ0, sQ1, sQ2, i64_w]
  rfl
 refine pure_ (i := 7) (N := (some 14)) (v := ?_) (a' := ?_) #[tt,tt,tt,tt,tt,ff,tt,tt,ff,ff,ff,ff] rfl rfl (any_of HT_.out (by kernel_rfl)) (fun _ _ _ h => h) (Or.inl ⟨by rfl, ?_⟩) ?_ ?_
 rotate_left
 ·intro w'
  go_simp
  with_reducible rfl
 rotate_left
 ·simp only [Act.put, sQ0, sQ1, sQ2, i64_w]
  rfl
 refine pure_ (i := 8) (N := (some 15)) (v := ?_) (a' := ?_) #[tt,tt,tt,tt,tt,ff,tt,tt,tt,ff,ff,ff] rfl rfl (any_of HT_.out (by kernel_rfl)) (fun _ _ _ h => h) (Or.inl ⟨by rfl, ?_⟩) ?_ ?_
 rotate_left
 ·intro w'
  go_simp
  with_reducible rfl
 rotate_left
 ·simp only [Act.put, sQ0, sQ1, sQ2, i64_w]
  rfl
 refine take_ (i := 5) (N := (some 12)) (v := ?_) (a' := ?_) #[tt,tt,tt,tt,tt,tt,tt,tt,tt,ff,ff,ff] rfl rfl (take_ofW HT_.out HW_.out (by kernel_rfl)) (fun _ _ _ h => h) (Or.inl ⟨by rfl, ?_⟩) hHeld ?_ ?_
 rotate_left
 ·rintro w' ⟨s0, s1⟩
  go_simp
  with_reducible rfl
 rotate_left
 ·simp only [Act.put, sQ0, sQ1, sQ2, i64_w]
  rfl
 refine take_ (i := 9) (N := (some 16)) (v := ?_) (a' := ?_) #[tt,tt,tt,tt,tt,tt,tt,tt,tt,tt,ff,ff] rfl rfl (take_ofW HT_.out HW_.out (by kernel_rfl)) (fun _ _ _ h => h) (Or.inl ⟨by rfl, ?_⟩) hHeld ?_ ?_
 rotate_left
 ·rintro w' ⟨s0, s1⟩
  go_simp
  with_reducible rfl
 rotate_left
 ·simp only [Act.put, sQ0, sQ1, sQ2, i64_w]
  rfl
 refine pure_ (i := 10) (N := (some 17)) (v := ?_) (a' := ?_) #[tt,tt,tt,tt,tt,tt,tt,tt,tt,tt,tt,ff] rfl rfl (any_of HT_.out (by kernel_rfl)) (fun _ _ _ h => h) (Or.inl ⟨by rfl, ?_⟩) ?_ ?_
 rotate_left
 ·intro w'
  go_simp
  with_reducible rfl
 rotate_left
 ·simp only [Act.put, sQ0, sQ1, sQ2, i64_w]
  rfl
 refine pure_ (i := 11) (N := (some 18)) (v := ?_) (a' := ?_) #[tt,tt,tt,tt,tt,tt,tt,tt,tt,tt,tt,tt] rfl rfl (any_of HT_.out (by kernel_rfl)) (fun _ _ _ h => h) (Or.inl ⟨by rfl, ?_⟩) ?_ ?_
 rotate_left
 ·intro w'
  go_simp
  with_reducible rfl
 rotate_left
 ·simp only [Act.put, sQ0, sQ1, sQ2, i64_w]
  rfl
 refine done_ (done_of HT_.out (by kernel_rfl)) ?_
 clear hHeld
 clear hlb hle
 have hcb := fun i => HJ3.out.be.cell i
 have hce := fun i => blk_cell HJ3.out.eb_ i
 have hlb := HJ3.out.be.lt
 have hle := blk_lt HJ3.out.eb_
 go_wp2
 go_ret
 exact VPost.of HF.out rfl (HJ3.out.be.up (by omega)) HJ3.out.fr
theorem vhear_idle {w : World} {B q g m wm n : Nat} {c : Cf} {b : Vb} (e : Ev7) (hx : (Lit.int .i64 e.cn).wf = true) (hwk : (Lit.int .i64 e.wk).wf = true) (hn : n + 1 ≤ 1000000) (h : VbIs w B q g m wm n c b) (hr : rightV e = true) (hnw : ¬ c.c0 ≤ e.wk) (hs : b.wks e.wk = none) (hcs : e.k = 1 ∨ e.k = 2 ∨ e.k = 4 ∨ (e.k = 3 ∨ e.k = 5)) :
  Calls Try.prog 51 #[pA q, .agg e.cells] w (VPost w B q g m wm n c (hearV c b e)) := by
 have hu0 := Try.underlying89
 have hu1 := Try.underlying60
 have hu2 := Try.underlying124
 have hr0 := hr
 have d0 : decide (e.wk ≥ c.c0) = false := decide_eq_false hnw
 have CR := Aside0.mk (fun W => vright_run e W)
 rw [hr] at CR
 have HX := Aside0.mk hx
 have HWK := Aside0.mk hwk
 have HN := Aside0.mk hn
 have HJ := Aside0.mk (show Vj w (w.alloc (.cells e.cells 60)) B q g m wm n c b e w.heap.size from ⟨h.alloc _, blk_new w _, (Fr.refl w _).alloc _⟩)
 have HR := Aside0.mk hr0
 have HNW := Aside0.mk hnw
 have HC := Aside0.mk hcs
 have HL := Aside0.mk (fun (W : World) (hl : (Instr.lookup 87 (.map (some wm)) (.int .i64 e.wk) true).run Try.prog W = .ok (.tuple #[.agg (wkA ((b.wks e.wk).getD wk0)), .bool (b.wks e.wk).isSome]) W) => (show (Instr.lookup 87 (.map (some wm)) (.int .i64 e.wk) true).run Try.prog W = .ok (.tuple #[.agg (wkA wk0), .bool false]) W by rw [hs] at hl; exact hl))
 have HS := Aside0.mk hs
 clear hx hwk hn h hr hr0 hnw hs hcs
 have hcb := fun i => HJ.out.be.cell i
 have hce := fun i => blk_cell HJ.out.eb_ i
 have hlb := HJ.out.be.lt
 have hle := blk_lt HJ.out.eb_
 go_enter Try.func51, Try.ntmps51
 go_upto_region 1 with (fail)
 refine start_ (n := 12) (S := (fun w' => (∀ i, w'.cell? ⟨q, i, none⟩ = (vbA g c.c0 wm)[i]?) ∧ (∀ i, w'.cell? ⟨w.heap.size, i, none⟩ = (e.cells)[i]?))) (ds := []) #[ff,ff,ff,ff,ff,ff,ff,ff,ff,ff,ff,ff] (by kernel_rfl) rfl rfl HJ.out.drew.cells (fun hHeld => ?_)
 refine with_tabW vhR.tab1 vhR.bits1 (fun HT_ HW_ => ?_)
 have HJ2 := Aside0.mk HJ.out.drew
 generalize World.drew _ = w2 at HJ2 hHeld ⊢
 clear hcb hce hlb hle
 have hlb := HJ2.out.be.lt
 have hle := blk_lt HJ2.out.eb_
 refine take_ (i := 0) (N := (some 7)) (v := ?_) (a' := ?_) #[tt,ff,ff,ff,ff,ff,ff,ff,ff,ff,ff,ff] rfl rfl (take_ofW HT_.out HW_.out (by kernel_rfl)) (fun _ _ _ h => h) (Or.inl ⟨by rfl, ?_⟩) hHeld ?_ ?_
 rotate_left
 ·rintro w' ⟨s0, s1⟩
  go_simp
  with_reducible rfl
 rotate_left
 ·simp only [Act.put, sQ0, sQ1, sQ2, i64_w]
  rfl
 refine one_ (i := 1) (N := (some 8)) #[tt,tt,ff,ff,ff,ff,ff,ff,ff,ff,ff,ff] rfl rfl (one_of HT_.out (by kernel_rfl)) (by decide) (fun K hK => ?_)
 refine call_ (f := 63) #[.agg e.cells] (by rfl) rfl (by go_simp <;> rfl) ?_
 refine (CR.out w2).mono ?_
 rintro r w3 ⟨rfl, hb⟩
 refine ⟨_, rfl, ?_⟩
 have HJ3 := Aside0.mk (HJ2.out.step hb)
 clear hb
 refine hK.out _ _ HJ3.out.cells (fun hHeld => ?_)
 clear hK K
 refine norm_ (a' := ?_) ?_ ?_
 rotate_left
 ·show Act.put _ (some 8) _ = _
  simp only [Act.put, sQ0, sQ1, sQ2, i64_w]
  rfl
 refine pure_ (i := 2) (N := (some 9)) (v := ?_) (a' := ?_) #[tt,tt,tt,ff,ff,ff,ff,ff,ff,ff,ff,ff] rfl rfl (any_of HT_.out (by kernel_rfl)) (fun _ _ _ h => h) (Or.inl ⟨by rfl, ?_⟩) ?_ ?_
 rotate_left
 ·intro w'
  go_simp
  with_reducible rfl
 rotate_left
 ·simp only [Act.put, sQ0, sQ1, sQ2, i64_w]
  rfl
 refine pure_ (i := 3) (N := (some 10)) (v := ?_) (a' := ?_) #[tt,tt,tt,tt,ff,ff,ff,ff,ff,ff,ff,ff] rfl rfl (any_of HT_.out (by kernel_rfl)) (fun _ _ _ h => h) (Or.inl ⟨by rfl, ?_⟩) ?_ ?_
 rotate_left
 ·intro w'
  go_simp
  with_reducible rfl
 rotate_left
 ·simp only [Act.put, sQ0, sQ1, sQ2, i64_w]
  rfl
 refine pure_ (i := 4) (N := (some 11)) (v := ?_) (a' := ?_) #[tt,tt,tt,tt,tt,ff,ff,ff,ff,ff,ff,ff] rfl rfl (any_of HT_.out (by kernel_rfl)) (fun _ _ _ h => h) (Or.inl ⟨by rfl, ?_⟩) ?_ ?_
 rotate_left
 ·intro w'
  go_simp
  with_reducible rfl
 rotate_left
 ·simp only [Act.put, sQ0, sQ1, sQ2, i64_w]
  rfl
 refine pure_ (i := 6) (N := (some 13)) (v := ?_) (a' := ?_) #[tt,tt,tt,tt,tt,ff,tt,ff,ff,ff,ff,ff] rfl rfl (any_of HT_.out (by kernel_rfl)) (fun _ _ _ h => h) (Or.inl ⟨by rfl, ?_⟩) ?_ ?_
 rotate_left
 ·intro w'
  go_simp
  with_reducible rfl
 rotate_left
 ·simp only [Act.put, sQ0, sQ1, sQ2, i64_w]
  rfl
 refine pure_ (i := 7) (N := (some 14)) (v := ?_) (a' := ?_) #[tt,tt,tt,tt,tt,ff,tt,tt,ff,ff,ff,ff] rfl rfl (any_of HT_.out (by kernel_rfl)) (fun _ _ _ h => h) (Or.inl ⟨by rfl, ?_⟩) ?_ ?_
 rotate_left
 ·intro w'
  go_simp
  with_reducible rfl
 rotate_left
 ·simp only [Act.put, sQ0, sQ1, sQ2, i64_w]
  rfl
 refine pure_ (i := 8) (N := (some 15)) (v := ?_) (a' := ?_) #[tt,tt,tt,tt,tt,ff,tt,tt,tt,ff,ff,ff] rfl rfl (any_of HT_.out (by kernel_rfl)) (fun _ _ _ h => h) (Or.inl ⟨by rfl, ?_⟩) ?_ ?_
 rotate_left
 ·intro w'
  go_simp
  with_reducible rfl
 rotate_left
 ·simp only [Act.put, sQ0, sQ1, sQ2, i64_w]
  rfl
 refine take_ (i := 5) (N := (some 12)) (v := ?_) (a' := ?_) #[tt,tt,tt,tt,tt,tt,tt,tt,tt,ff,ff,ff] rfl rfl (take_ofW HT_.out HW_.out (by kernel_rfl)) (fun _ _ _ h => h) (Or.inl ⟨by rfl, ?_⟩) hHeld ?_ ?_
 rotate_left
 ·rintro w' ⟨s0, s1⟩
  go_simp
  with_reducible rfl
 rotate_left
 ·simp only [Act.put, sQ0, sQ1, sQ2, i64_w]
  rfl
 refine take_ (i := 9) (N := (some 16)) (v := ?_) (a' := ?_) #[tt,tt,tt,tt,tt,tt,tt,tt,tt,tt,ff,ff] rfl rfl (take_ofW HT_.out HW_.out (by kernel_rfl)) (fun _ _ _ h => h) (Or.inl ⟨by rfl, ?_⟩) hHeld ?_ ?_
 rotate_left
 ·rintro w' ⟨s0, s1⟩
  go_simp
  with_reducible rfl
 rotate_left
 ·simp only [Act.put, sQ0, sQ1, sQ2, i64_w]
  rfl
 refine pure_ (i := 10) (N := (some 17)) (v := ?_) (a' := ?_) #[tt,tt,tt,tt,tt,tt,tt,tt,tt,tt,tt,ff] rfl rfl (any_of HT_.out (by kernel_rfl)) (fun _ _ _ h => h) (Or.inl ⟨by rfl, ?_⟩) ?_ ?_
 rotate_left
 ·intro w'
  go_simp
  with_reducible rfl
 rotate_left
 ·simp only [Act.put, sQ0, sQ1, sQ2, i64_w]
  rfl
 refine pure_ (i := 11) (N := (some 18)) (v := ?_) (a' := ?_) #[tt,tt,tt,tt,tt,tt,tt,tt,tt,tt,tt,tt] rfl rfl (any_of HT_.out (by kernel_rfl)) (fun _ _ _ h => h) (Or.inl ⟨by rfl, ?_⟩) ?_ ?_
 rotate_left
 ·intro w'
  go_simp
  with_reducible rfl
 rotate_left
 ·simp only [Act.put, sQ0, sQ1, sQ2, i64_w]
  rfl
 refine done_ (done_of HT_.out (by kernel_rfl)) ?_
 clear hHeld
 clear hlb hle
 have hcb := fun i => HJ3.out.be.cell i
 have hce := fun i => blk_cell HJ3.out.eb_ i
 have hlb := HJ3.out.be.lt
 have hle := blk_lt HJ3.out.eb_
 go_upto_region 3 with (fail)
 refine gen_world' (fun W => Vj w W B q g m wm n c b e w.heap.size) (by exact HJ3.out) fun w4 Hw4 => ?_
 have HJw4 := Aside0.mk Hw4
 clear Hw4
 clear hcb hce hlb hle
 refine start_ (n := 13) (S := (fun w' => (∀ i, w'.cell? ⟨q, i, none⟩ = (vbA g c.c0 wm)[i]?) ∧ (∀ i, w'.cell? ⟨w.heap.size, i, none⟩ = (e.cells)[i]?) ∧ (Instr.lookup 87 (.map (some wm)) (.int .i64 e.wk) true).run Try.prog w' = .ok (.tuple #[.agg (wkA wk0), .bool false]) w')) (ds := [11]) #[ff,ff,ff,ff,ff,ff,ff,ff,ff,ff,ff,ff,ff] (by kernel_rfl) rfl rfl ⟨HJw4.out.drew.cells.1, HJw4.out.drew.cells.2, HL.out w4.drew (VbIs.look HJw4.out.drew.be HWK.out _ rfl)⟩ (fun hHeld => ?_)
 refine with_tabW vhR.tab3 vhR.bits3 (fun HT_ HW_ => ?_)
 have HJ5 := Aside0.mk HJw4.out.drew
 generalize w4.drew = w5 at HJ5 hHeld ⊢
 have hlb := HJ5.out.be.lt
 have hle := blk_lt HJ5.out.eb_
 refine pure_ (i := 0) (N := (some 20)) (v := ?_) (a' := ?_) #[tt,ff,ff,ff,ff,ff,ff,ff,ff,ff,ff,ff,ff] rfl rfl (any_of HT_.out (by kernel_rfl)) (fun _ _ _ h => h) (Or.inl ⟨by rfl, ?_⟩) ?_ ?_
 rotate_left
 ·intro w'
  go_simp
  with_reducible rfl
 rotate_left
 ·simp only [Act.put, sQ0, sQ1, sQ2, i64_w]
  rfl
 refine pure_ (i := 1) (N := (some 21)) (v := ?_) (a' := ?_) #[tt,tt,ff,ff,ff,ff,ff,ff,ff,ff,ff,ff,ff] rfl rfl (any_of HT_.out (by kernel_rfl)) (fun _ _ _ h => h) (Or.inl ⟨by rfl, ?_⟩) ?_ ?_
 rotate_left
 ·intro w'
  go_simp
  with_reducible rfl
 rotate_left
 ·simp only [Act.put, sQ0, sQ1, sQ2, i64_w]
  rfl
 refine pure_ (i := 2) (N := (some 22)) (v := ?_) (a' := ?_) #[tt,tt,tt,ff,ff,ff,ff,ff,ff,ff,ff,ff,ff] rfl rfl (any_of HT_.out (by kernel_rfl)) (fun _ _ _ h => h) (Or.inl ⟨by rfl, ?_⟩) ?_ ?_
 rotate_left
 ·intro w'
  go_simp
  with_reducible rfl
 rotate_left
 ·simp only [Act.put, sQ0, sQ1, sQ2, i64_w]
  rfl
 refine pure_ (i := 4) (N := (some 24)) (v := ?_) (a' := ?_) #[tt,tt,tt,ff,tt,ff,ff,ff,ff,ff,ff,ff,ff] rfl rfl (any_of HT_.out (by kernel_rfl)) (fun _ _ _ h => h) (Or.inl ⟨by rfl, ?_⟩) ?_ ?_
 rotate_left
 ·intro w'
  go_simp
  with_reducible rfl
 rotate_left
 ·simp only [Act.put, sQ0, sQ1, sQ2, i64_w]
  rfl
 refine take_ (i := 3) (N := (some 23)) (v := ?_) (a' := ?_) #[tt,tt,tt,tt,tt,ff,ff,ff,ff,ff,ff,ff,ff] rfl rfl (take_ofW HT_.out HW_.out (by kernel_rfl)) (fun _ _ _ h => h) (Or.inl ⟨by rfl, ?_⟩) hHeld ?_ ?_
 rotate_left
 ·rintro w' ⟨s0, s1, s2⟩
  go_simp
  with_reducible rfl
 rotate_left
 ·simp only [Act.put, sQ0, sQ1, sQ2, i64_w]
  rfl
 refine take_ (i := 5) (N := (some 25)) (v := ?_) (a' := ?_) #[tt,tt,tt,tt,tt,tt,ff,ff,ff,ff,ff,ff,ff] rfl rfl (take_ofW HT_.out HW_.out (by kernel_rfl)) (fun _ _ _ h => h) (Or.inl ⟨by rfl, ?_⟩) hHeld ?_ ?_
 rotate_left
 ·rintro w' ⟨s0, s1, s2⟩
  go_simp
  with_reducible rfl
 rotate_left
 ·simp only [Act.put, sQ0, sQ1, sQ2, i64_w]
  rfl
 refine take_ (i := 6) (N := (some 26)) (v := ?_) (a' := ?_) #[tt,tt,tt,tt,tt,tt,tt,ff,ff,ff,ff,ff,ff] rfl rfl (take_ofW HT_.out HW_.out (by kernel_rfl)) (fun _ _ _ h => h) (Or.inl ⟨by rfl, ?_⟩) hHeld ?_ ?_
 rotate_left
 ·rintro w' ⟨s0, s1, s2⟩
  go_simp
  with_reducible rfl
 rotate_left
 ·simp only [Act.put, sQ0, sQ1, sQ2, i64_w]
  rfl
 refine pure_ (i := 7) (N := (some 19)) (v := ?_) (a' := ?_) #[tt,tt,tt,tt,tt,tt,tt,tt,ff,ff,ff,ff,ff] rfl rfl (any_of HT_.out (by kernel_rfl)) (fun _ _ _ h => h) (Or.inl ⟨by rfl, ?_⟩) ?_ ?_
 rotate_left
 ·intro w'
  go_simp
  with_reducible rfl
 rotate_left
 ·simp only [Act.put, sQ0, sQ1, sQ2, i64_w]
  rfl
 refine pure_ (i := 8) (N := (some 27)) (v := ?_) (a' := ?_) #[tt,tt,tt,tt,tt,tt,tt,tt,tt,ff,ff,ff,ff] rfl rfl (any_of HT_.out (by kernel_rfl)) (fun _ _ _ h => h) (Or.inl ⟨by rfl, ?_⟩) ?_ ?_
 rotate_left
 ·intro w'
  go_simp
  with_reducible rfl
 rotate_left
 ·simp only [Act.put, sQ0, sQ1, sQ2, i64_w]
  rfl
 refine pure_ (i := 9) (N := (some 28)) (v := ?_) (a' := ?_) #[tt,tt,tt,tt,tt,tt,tt,tt,tt,tt,ff,ff,ff] rfl rfl (any_of HT_.out (by kernel_rfl)) (fun _ _ _ h => h) (Or.inl ⟨by rfl, ?_⟩) ?_ ?_
 rotate_left
 ·intro w'
  go_simp
  with_reducible rfl
 rotate_left
 ·simp only [Act.put, sQ0, sQ1, sQ2, i64_w]
  rfl
 refine one_ (i := 10) (N := (some 5)) #[tt,tt,tt,tt,tt,tt,tt,tt,tt,tt,tt,ff,ff] rfl rfl (one_of HT_.out (by kernel_rfl)) (by decide) (fun K hK => ?_)
 refine value_ (by rfl) rfl (v := pA w5.heap.size) (w1 := w5.alloc (.cells (wkA wk0) 124)) (by go_simp <;> rfl) ?_
 refine hK.out _ _ ⟨(HJ5.out.alloc _).cells.1, (HJ5.out.alloc _).cells.2, HL.out _ (VbIs.look (HJ5.out.alloc _).be HWK.out _ rfl)⟩ (fun hHeld => ?_)
 clear hK K
 refine norm_ (a' := ?_) ?_ ?_
 rotate_left
 ·show Act.put _ (some 5) _ = _
  simp only [Act.put, sQ0, sQ1, sQ2, i64_w]
  rfl
 refine last_ (i := 11) (N := none) #[tt,tt,tt,tt,tt,tt,tt,tt,tt,tt,tt,tt,ff] rfl rfl (one_of HT_.out (by kernel_rfl)) (by decide) (fun K hK => ?_)
 refine skip_ (by rfl) rfl (w1 := w5.alloc (.cells (wkA wk0) 124)) (by go_simp <;> rfl) ?_
 refine hK.out _ _ ?_
 clear hK K
 refine pure_ (i := 12) (N := (some 6)) (v := ?_) (a' := ?_) #[tt,tt,tt,tt,tt,tt,tt,tt,tt,tt,tt,tt,tt] rfl rfl (any_of HT_.out (by kernel_rfl)) (fun _ _ _ h => h) (Or.inl ⟨by rfl, ?_⟩) ?_ ?_
 rotate_left
 ·intro w'
  go_simp
  with_reducible rfl
 rotate_left
 ·simp only [Act.put, sQ0, sQ1, sQ2, i64_w]
  rfl
 refine done_ (done_of HT_.out (by kernel_rfl)) ?_
 clear hHeld hlb hle
 obtain ⟨wb, hwb⟩ : ∃ wb, wb = w5.heap.size := ⟨_, rfl⟩
 have HW0 := Aside0.mk (show Wj w (w5.alloc (.cells (wkA wk0) 124)) B q g m wm n c b e w.heap.size wk0 wb from ⟨HJ5.out.alloc _, by rw [hwb]; exact blk_new w5 _⟩)
 have HLE := Aside0.mk (show w.heap.size ≤ wb by rw [hwb]; exact HJ5.out.fr.size)
 rw [← hwb]
 obtain ⟨w6, hw6⟩ : ∃ w6, w6 = w5.alloc (.cells (wkA wk0) 124) := ⟨_, rfl⟩
 rw [← hw6]
 have HJ6 := Aside0.mk (show Wj w w6 B q g m wm n c b e w.heap.size wk0 wb by rw [hw6]; exact HW0.out)
 clear hw6 HW0 hwb
 have hcb := fun i => HJ6.out.vj.be.cell i
 have hce := fun i => blk_cell HJ6.out.vj.eb_ i
 have hcw := fun i => blk_cell HJ6.out.wb_ i
 have hlb := HJ6.out.vj.be.lt
 have hle := blk_lt HJ6.out.vj.eb_
 have hlw := blk_lt HJ6.out.wb_
 rcases HC.out with hz | hz | hz | hz
 ·have hk := hz; clear hz
  have HF := Aside0.mk (show hearV c b e = b.do_ c e 0 by have hr := HR.out; have hnw := HNW.out; have hs := HS.out; unfold hearV; rw [if_neg (fun q => by rcases q with q | q; (rw [hr] at q; cases q); omega)]; rw [if_pos hk])
  have k1 : (e.k == 1) = true := beq_iff_eq.2 (hk)
  have k2 : (e.k == 2) = false := beq_eq_false_iff_ne.2 (by omega)
  have k3 : (e.k == 3) = false := beq_eq_false_iff_ne.2 (by omega)
  have k4 : (e.k == 4) = false := beq_eq_false_iff_ne.2 (by omega)
  clear hk
  go_upto_region 6 with (fail)
  refine gen_world' (fun W => Wj w W B q g m wm n c b e w.heap.size wk0 wb) (by exact HJ6.out) fun w7 Hw7 => ?_
  have HJw7 := Aside0.mk Hw7
  clear Hw7
  clear hcb hce hcw hlb hle hlw
  have hcb := fun i => HJw7.out.vj.be.cell i
  have hce := fun i => blk_cell HJw7.out.vj.eb_ i
  have hcw := fun i => blk_cell HJw7.out.wb_ i
  have hlb := HJw7.out.vj.be.lt
  have hle := blk_lt HJw7.out.vj.eb_
  have hlw := blk_lt HJw7.out.wb_
  refine start_ (n := 7) (S := (fun w' => (∀ i, w'.cell? ⟨q, i, none⟩ = (vbA g c.c0 wm)[i]?) ∧ (∀ i, w'.cell? ⟨w.heap.size, i, none⟩ = (e.cells)[i]?) ∧ (∀ i, w'.cell? ⟨wb, i, none⟩ = (wkA wk0)[i]?))) (ds := [5]) #[ff,ff,ff,ff,ff,ff,ff] (by kernel_rfl) rfl rfl HJw7.out.drew.cells (fun hHeld => ?_)
  refine with_tabW vhR.tab6 vhR.bits6 (fun HT_ HW_ => ?_)
  have HJ8 := Aside0.mk HJw7.out.drew
  generalize w7.drew = w8 at HJ8 hHeld ⊢
  clear hcb hce hcw hlb hle hlw
  have hlb := HJ8.out.vj.be.lt
  have hle := blk_lt HJ8.out.vj.eb_
  have hlw := blk_lt HJ8.out.wb_
  refine pure_ (i := 0) (N := (some 33)) (v := ?_) (a' := ?_) #[tt,ff,ff,ff,ff,ff,ff] rfl rfl (any_of HT_.out (by kernel_rfl)) (fun _ _ _ h => h) (Or.inl ⟨by rfl, ?_⟩) ?_ ?_
  rotate_left
  ·intro w'
   go_simp
   with_reducible rfl
  rotate_left
  ·simp only [Act.put, sQ0, sQ1, sQ2, i64_w]
   rfl
  refine pure_ (i := 1) (N := (some 34)) (v := ?_) (a' := ?_) #[tt,tt,ff,ff,ff,ff,ff] rfl rfl (any_of HT_.out (by kernel_rfl)) (fun _ _ _ h => h) (Or.inl ⟨by rfl, ?_⟩) ?_ ?_
  rotate_left
  ·intro w'
   go_simp
   with_reducible rfl
  rotate_left
  ·simp only [Act.put, sQ0, sQ1, sQ2, i64_w]
   rfl
  refine pure_ (i := 2) (N := (some 35)) (v := ?_) (a' := ?_) #[tt,tt,tt,ff,ff,ff,ff] rfl rfl (any_of HT_.out (by kernel_rfl)) (fun _ _ _ h => h) (Or.inl ⟨by rfl, ?_⟩) ?_ ?_
  rotate_left
  ·intro w'
   go_simp
   with_reducible rfl
  rotate_left
  ·simp only [Act.put, sQ0, sQ1, sQ2, i64_w]
   rfl
  refine take_ (i := 3) (N := (some 36)) (v := ?_) (a' := ?_) #[tt,tt,tt,tt,ff,ff,ff] rfl rfl (take_ofW HT_.out HW_.out (by kernel_rfl)) (fun _ _ _ h => h) (Or.inl ⟨by rfl, ?_⟩) hHeld ?_ ?_
  rotate_left
  ·rintro w' ⟨s0, s1, s2⟩
   go_simp
   with_reducible rfl
  rotate_left
  ·simp only [Act.put, sQ0, sQ1, sQ2, i64_w]
   rfl
  refine take_ (i := 4) (N := (some 37)) (v := ?_) (a' := ?_) #[tt,tt,tt,tt,tt,ff,ff] rfl rfl (take_ofW HT_.out HW_.out (by kernel_rfl)) (fun _ _ _ h => h) (Or.inl ⟨by rfl, ?_⟩) hHeld ?_ ?_
  rotate_left
  ·rintro w' ⟨s0, s1, s2⟩
   go_simp
   with_reducible rfl
  rotate_left
  ·simp only [Act.put, sQ0, sQ1, sQ2, i64_w]
   rfl
  refine last_ (i := 5) (N := (some 38)) #[tt,tt,tt,tt,tt,tt,ff] rfl rfl (one_of HT_.out (by kernel_rfl)) (by decide) (fun K hK => ?_)
  refine call_ (f := 38) #[pA g, .agg e.cells, .int .i64 0] (by rfl) rfl (by go_simp <;> rfl) ?_
  refine (vdo_any e 0 HX.out HN.out HJ8.out.vj.be).mono ?_
  rintro r w9 ⟨rfl, hm, hf⟩
  refine ⟨_, rfl, ?_⟩
  have HD := Aside0.mk (HJ8.out.turn hm hf)
  clear hm hf
  refine hK.out _ _ ?_
  clear hK K
  refine norm_ (a' := ?_) ?_ ?_
  rotate_left
  ·show Act.put _ (some 38) _ = _
   simp only [Act.put, sQ0, sQ1, sQ2, i64_w]
   rfl
  refine pure_ (i := 6) (N := (some 4)) (v := ?_) (a' := ?_) #[tt,tt,tt,tt,tt,tt,tt] rfl rfl (any_of HT_.out (by kernel_rfl)) (fun _ _ _ h => h) (Or.inl ⟨by rfl, ?_⟩) ?_ ?_
  rotate_left
  ·intro w'
   go_simp
   with_reducible rfl
  rotate_left
  ·simp only [Act.put, sQ0, sQ1, sQ2, i64_w]
   rfl
  refine done_ (done_of HT_.out (by kernel_rfl)) ?_
  clear hlb hle hlw
  go_wp2
  go_ret
  exact VPost.of HF.out rfl HD.out.vj.be HD.out.vj.fr
 ·have hk := hz; clear hz
  have HF := Aside0.mk (show hearV c b e = ({ b with wks := updW b.wks e.wk (some ⟨e, b.clk, false, 0⟩) }, 0) by have hr := HR.out; have hnw := HNW.out; have hs := HS.out; unfold hearV; rw [if_neg (fun q => by rcases q with q | q; (rw [hr] at q; cases q); omega)]; rw [if_neg (by omega), hs]; simp only; rw [if_pos hk])
  have k1 : (e.k == 1) = false := beq_eq_false_iff_ne.2 (by omega)
  have k2 : (e.k == 2) = true := beq_iff_eq.2 (hk)
  have k3 : (e.k == 3) = false := beq_eq_false_iff_ne.2 (by omega)
  have k4 : (e.k == 4) = false := beq_eq_false_iff_ne.2 (by omega)
  clear hk
  go_upto_region 10 with (fail)
  refine gen_world' (fun W => Wj w W B q g m wm n c b e w.heap.size wk0 wb) (by exact HJ6.out) fun w7 Hw7 => ?_
  have HJw7 := Aside0.mk Hw7
  clear Hw7
  clear hcb hce hcw hlb hle hlw
  have hcb := fun i => HJw7.out.vj.be.cell i
  have hce := fun i => blk_cell HJw7.out.vj.eb_ i
  have hcw := fun i => blk_cell HJw7.out.wb_ i
  have hlb := HJw7.out.vj.be.lt
  have hle := blk_lt HJw7.out.vj.eb_
  have hlw := blk_lt HJw7.out.wb_
  refine start_ (n := 14) (S := (fun w' => (∀ i, w'.cell? ⟨q, i, none⟩ = (vbA g c.c0 wm)[i]?) ∧ (∀ i, w'.cell? ⟨w.heap.size, i, none⟩ = (e.cells)[i]?) ∧ (∀ i, w'.cell? ⟨wb, i, none⟩ = (wkA wk0)[i]?))) (ds := [13]) #[ff,ff,ff,ff,ff,ff,ff,ff,ff,ff,ff,ff,ff,ff] (by kernel_rfl) rfl rfl HJw7.out.drew.cells (fun hHeld => ?_)
  refine with_tabW vhR.tab10 vhR.bits10 (fun HT_ HW_ => ?_)
  have HJ8 := Aside0.mk HJw7.out.drew
  generalize w7.drew = w8 at HJ8 hHeld ⊢
  clear hcb hce hcw hlb hle hlw
  have hlb := HJ8.out.vj.be.lt
  have hle := blk_lt HJ8.out.vj.eb_
  have hlw := blk_lt HJ8.out.wb_
  refine pure_ (i := 0) (N := (some 42)) (v := ?_) (a' := ?_) #[tt,ff,ff,ff,ff,ff,ff,ff,ff,ff,ff,ff,ff,ff] rfl rfl (any_of HT_.out (by kernel_rfl)) (fun _ _ _ h => h) (Or.inl ⟨by rfl, ?_⟩) ?_ ?_
  rotate_left
  ·intro w'
   go_simp
   with_reducible rfl
  rotate_left
  ·simp only [Act.put, sQ0, sQ1, sQ2, i64_w]
   rfl
  refine pure_ (i := 1) (N := (some 43)) (v := ?_) (a' := ?_) #[tt,tt,ff,ff,ff,ff,ff,ff,ff,ff,ff,ff,ff,ff] rfl rfl (any_of HT_.out (by kernel_rfl)) (fun _ _ _ h => h) (Or.inl ⟨by rfl, ?_⟩) ?_ ?_
  rotate_left
  ·intro w'
   go_simp
   with_reducible rfl
  rotate_left
  ·simp only [Act.put, sQ0, sQ1, sQ2, i64_w]
   rfl
  refine pure_ (i := 2) (N := (some 44)) (v := ?_) (a' := ?_) #[tt,tt,tt,ff,ff,ff,ff,ff,ff,ff,ff,ff,ff,ff] rfl rfl (any_of HT_.out (by kernel_rfl)) (fun _ _ _ h => h) (Or.inl ⟨by rfl, ?_⟩) ?_ ?_
  rotate_left
  ·intro w'
   go_simp
   with_reducible rfl
  rotate_left
  ·simp only [Act.put, sQ0, sQ1, sQ2, i64_w]
   rfl
  refine pure_ (i := 4) (N := (some 46)) (v := ?_) (a' := ?_) #[tt,tt,tt,ff,tt,ff,ff,ff,ff,ff,ff,ff,ff,ff] rfl rfl (any_of HT_.out (by kernel_rfl)) (fun _ _ _ h => h) (Or.inl ⟨by rfl, ?_⟩) ?_ ?_
  rotate_left
  ·intro w'
   go_simp
   with_reducible rfl
  rotate_left
  ·simp only [Act.put, sQ0, sQ1, sQ2, i64_w]
   rfl
  refine pure_ (i := 7) (N := (some 49)) (v := ?_) (a' := ?_) #[tt,tt,tt,ff,tt,ff,ff,tt,ff,ff,ff,ff,ff,ff] rfl rfl (any_of HT_.out (by kernel_rfl)) (fun _ _ _ h => h) (Or.inl ⟨by rfl, ?_⟩) ?_ ?_
  rotate_left
  ·intro w'
   go_simp
   with_reducible rfl
  rotate_left
  ·simp only [Act.put, sQ0, sQ1, sQ2, i64_w]
   rfl
  refine pure_ (i := 8) (N := (some 50)) (v := ?_) (a' := ?_) #[tt,tt,tt,ff,tt,ff,ff,tt,tt,ff,ff,ff,ff,ff] rfl rfl (any_of HT_.out (by kernel_rfl)) (fun _ _ _ h => h) (Or.inl ⟨by rfl, ?_⟩) ?_ ?_
  rotate_left
  ·intro w'
   go_simp
   with_reducible rfl
  rotate_left
  ·simp only [Act.put, sQ0, sQ1, sQ2, i64_w]
   rfl
  refine pure_ (i := 9) (N := (some 51)) (v := ?_) (a' := ?_) #[tt,tt,tt,ff,tt,ff,ff,tt,tt,tt,ff,ff,ff,ff] rfl rfl (any_of HT_.out (by kernel_rfl)) (fun _ _ _ h => h) (Or.inl ⟨by rfl, ?_⟩) ?_ ?_
  rotate_left
  ·intro w'
   go_simp
   with_reducible rfl
  rotate_left
  ·simp only [Act.put, sQ0, sQ1, sQ2, i64_w]
   rfl
  refine take_ (i := 3) (N := (some 45)) (v := ?_) (a' := ?_) #[tt,tt,tt,tt,tt,ff,ff,tt,tt,tt,ff,ff,ff,ff] rfl rfl (take_ofW HT_.out HW_.out (by kernel_rfl)) (fun _ _ _ h => h) (Or.inl ⟨by rfl, ?_⟩) hHeld ?_ ?_
  rotate_left
  ·rintro w' ⟨s0, s1, s2⟩
   go_simp
   with_reducible rfl
  rotate_left
  ·simp only [Act.put, sQ0, sQ1, sQ2, i64_w]
   rfl
  refine take_ (i := 5) (N := (some 47)) (v := ?_) (a' := ?_) #[tt,tt,tt,tt,tt,tt,ff,tt,tt,tt,ff,ff,ff,ff] rfl rfl (take_ofW HT_.out HW_.out (by kernel_rfl)) (fun _ _ _ h => h) (Or.inl ⟨by rfl, ?_⟩) hHeld ?_ ?_
  rotate_left
  ·rintro w' ⟨s0, s1, s2⟩
   go_simp
   with_reducible rfl
  rotate_left
  ·simp only [Act.put, sQ0, sQ1, sQ2, i64_w]
   rfl
  refine take_ (i := 6) (N := (some 48)) (v := ?_) (a' := ?_) #[tt,tt,tt,tt,tt,tt,tt,tt,tt,tt,ff,ff,ff,ff] rfl rfl (take_ofW HT_.out HW_.out (by kernel_rfl)) (fun _ _ _ h => h) (Or.inl ⟨by rfl, ?_⟩) hHeld ?_ ?_
  rotate_left
  ·rintro w' ⟨s0, s1, s2⟩
   go_simp
   with_reducible rfl
  rotate_left
  ·simp only [Act.put, sQ0, sQ1, sQ2, i64_w]
   rfl
  refine take_ (i := 10) (N := (some 52)) (v := ?_) (a' := ?_) #[tt,tt,tt,tt,tt,tt,tt,tt,tt,tt,tt,ff,ff,ff] rfl rfl (take_ofW HT_.out HW_.out (by kernel_rfl)) (fun _ _ _ h => h) (Or.inl ⟨by rfl, ?_⟩) hHeld ?_ ?_
  rotate_left
  ·rintro w' ⟨s0, s1, s2⟩
   go_simp
   with_reducible rfl
  rotate_left
  ·simp only [Act.put, sQ0, sQ1, sQ2, i64_w]
   rfl
  refine one_ (i := 11) (N := (some 53)) #[tt,tt,tt,tt,tt,tt,tt,tt,tt,tt,tt,tt,ff,ff] rfl rfl (one_of HT_.out (by kernel_rfl)) (by decide) (fun K hK => ?_)
  refine call_ (f := 42) #[pA g] (by rfl) rfl (by go_simp <;> rfl) ?_
  refine (vclock_any HJ8.out.vj.be).mono ?_
  rintro r w9 ⟨rfl, rfl⟩
  refine ⟨_, rfl, ?_⟩
  refine hK.out _ _ HJ8.out.cells (fun hHeld => ?_)
  clear hK K
  refine norm_ (a' := ?_) ?_ ?_
  rotate_left
  ·show Act.put _ (some 53) _ = _
   simp only [Act.put, sQ0, sQ1, sQ2, i64_w]
   rfl
  refine pure_ (i := 12) (N := (some 54)) (v := ?_) (a' := ?_) #[tt,tt,tt,tt,tt,tt,tt,tt,tt,tt,tt,tt,tt,ff] rfl rfl (any_of HT_.out (by kernel_rfl)) (fun _ _ _ h => h) (Or.inl ⟨by rfl, ?_⟩) ?_ ?_
  rotate_left
  ·intro w'
   go_simp
   with_reducible rfl
  rotate_left
  ·simp only [Act.put, sQ0, sQ1, sQ2, i64_w]
   rfl
  refine last_ (i := 13) (N := none) #[tt,tt,tt,tt,tt,tt,tt,tt,tt,tt,tt,tt,tt,tt] rfl rfl (one_of HT_.out (by kernel_rfl)) (by decide) (fun K hK => ?_)
  refine if_wp rfl ?_
  obtain ⟨z, hz, hM⟩ := HJ8.out.vj.be.mw
  refine wp_store Bk.int_inj _ _ _ 87 (by rfl) hM law3 Try.underlying87 (by unfold maxLen; have := HN.out; omega) (y := e.wk) (keyOf_int_mk Try.underlying3 HWK.out) (val := .agg (wkA ⟨e, b.clk, false, 0⟩)) (by rfl) (by rfl) (by rfl) ?_
  intro w10 hm10 hg10
  have hi : (wV b.wks e.wk).isSome = false := by unfold wV; rw [HS.out]; rfl
  rw [hi, wV_upd] at hm10
  have HI := Aside0.mk (And.intro (HJ8.out.vj.be.put hm10 (n' := n + 1) (by simp; omega) (by omega) hg10) (HJ8.out.vj.fr.trans (grown_fr hg10 g m)))
  clear hm10 hg10 hM hz hi
  refine hK.out _ _ ?_
  clear hK K
  refine done_ (done_of HT_.out (by kernel_rfl)) ?_
  clear hlb hle hlw
  go_wp2
  go_ret
  exact VPost.of HF.out rfl HI.out.1 HI.out.2
 ·have hk := hz; clear hz
  have HF := Aside0.mk (show hearV c b e = (b, 6) by have hr := HR.out; have hnw := HNW.out; have hs := HS.out; unfold hearV; rw [if_neg (fun q => by rcases q with q | q; (rw [hr] at q; cases q); omega)]; rw [if_neg (by omega), hs]; simp only; rw [if_neg (by omega)])
  have k1 : (e.k == 1) = false := beq_eq_false_iff_ne.2 (by omega)
  have k2 : (e.k == 2) = false := beq_eq_false_iff_ne.2 (by omega)
  have k3 : (e.k == 3) = false := beq_eq_false_iff_ne.2 (by omega)
  have k4 : (e.k == 4) = true := beq_iff_eq.2 (hk)
  clear hk
  go_wp2
  go_ret
  exact VPost.of HF.out rfl (HJ6.out.vj.be.up (by omega)) HJ6.out.vj.fr
 ·have hk := hz; clear hz
  have HF := Aside0.mk (show hearV c b e = (b, 6) by have hr := HR.out; have hnw := HNW.out; have hs := HS.out; unfold hearV; rw [if_neg (fun q => by rcases q with q | q; (rw [hr] at q; cases q); omega)]; rw [if_neg (by omega), hs]; simp only; rw [if_neg (by omega)])
  have k1 : (e.k == 1) = false := beq_eq_false_iff_ne.2 (by omega)
  have k2 : (e.k == 2) = false := beq_eq_false_iff_ne.2 (by omega)
  have k4 : (e.k == 4) = false := beq_eq_false_iff_ne.2 (by omega)
  clear hk
  go_wp2
  go_ret
  exact VPost.of HF.out rfl (HJ6.out.vj.be.up (by omega)) HJ6.out.vj.fr
theorem vhear_busy_a {w : World} {B q g m wm n : Nat} {c : Cf} {b : Vb} {k : Wk} (e : Ev7) (hx : (Lit.int .i64 e.cn).wf = true) (hwk : (Lit.int .i64 e.wk).wf = true) (hn : n + 1 ≤ 1000000) (h : VbIs w B q g m wm n c b) (hr : rightV e = true) (hnw : ¬ c.c0 ≤ e.wk) (hs : b.wks e.wk = some k) (hcs : e.k = 1 ∨ e.k = 2 ∨ (e.k = 4 ∧ ¬ k.e.op = 6) ∨ (e.k = 4 ∧ k.e.op = 6 ∧ e.t < k.beg) ∨ (e.k = 4 ∧ k.e.op = 6 ∧ ¬ e.t < k.beg)) :
  Calls Try.prog 51 #[pA q, .agg e.cells] w (VPost w B q g m wm n c (hearV c b e)) := by
 have hu0 := Try.underlying89
 have hu1 := Try.underlying60
 have hu2 := Try.underlying124
 have hr0 := hr
 have d0 : decide (e.wk ≥ c.c0) = false := decide_eq_false hnw
 have CR := Aside0.mk (fun W => vright_run e W)
 rw [hr] at CR
 have HX := Aside0.mk hx
 have HWK := Aside0.mk hwk
 have HN := Aside0.mk hn
 have HJ := Aside0.mk (show Vj w (w.alloc (.cells e.cells 60)) B q g m wm n c b e w.heap.size from ⟨h.alloc _, blk_new w _, (Fr.refl w _).alloc _⟩)
 have HR := Aside0.mk hr0
 have HNW := Aside0.mk hnw
 have HC := Aside0.mk hcs
 have HL := Aside0.mk (fun (W : World) (hl : (Instr.lookup 87 (.map (some wm)) (.int .i64 e.wk) true).run Try.prog W = .ok (.tuple #[.agg (wkA ((b.wks e.wk).getD wk0)), .bool (b.wks e.wk).isSome]) W) => (show (Instr.lookup 87 (.map (some wm)) (.int .i64 e.wk) true).run Try.prog W = .ok (.tuple #[.agg (wkA k), .bool true]) W by rw [hs] at hl; exact hl))
 have HS := Aside0.mk hs
 clear hx hwk hn h hr hr0 hnw hs hcs
 have hcb := fun i => HJ.out.be.cell i
 have hce := fun i => blk_cell HJ.out.eb_ i
 have hlb := HJ.out.be.lt
 have hle := blk_lt HJ.out.eb_
 go_enter Try.func51, Try.ntmps51
 go_upto_region 1 with (fail)
 refine start_ (n := 12) (S := (fun w' => (∀ i, w'.cell? ⟨q, i, none⟩ = (vbA g c.c0 wm)[i]?) ∧ (∀ i, w'.cell? ⟨w.heap.size, i, none⟩ = (e.cells)[i]?))) (ds := []) #[ff,ff,ff,ff,ff,ff,ff,ff,ff,ff,ff,ff] (by kernel_rfl) rfl rfl HJ.out.drew.cells (fun hHeld => ?_)
 refine with_tabW vhR.tab1 vhR.bits1 (fun HT_ HW_ => ?_)
 have HJ2 := Aside0.mk HJ.out.drew
 generalize World.drew _ = w2 at HJ2 hHeld ⊢
 clear hcb hce hlb hle
 have hlb := HJ2.out.be.lt
 have hle := blk_lt HJ2.out.eb_
 refine take_ (i := 0) (N := (some 7)) (v := ?_) (a' := ?_) #[tt,ff,ff,ff,ff,ff,ff,ff,ff,ff,ff,ff] rfl rfl (take_ofW HT_.out HW_.out (by kernel_rfl)) (fun _ _ _ h => h) (Or.inl ⟨by rfl, ?_⟩) hHeld ?_ ?_
 rotate_left
 ·rintro w' ⟨s0, s1⟩
  go_simp
  with_reducible rfl
 rotate_left
 ·simp only [Act.put, sQ0, sQ1, sQ2, i64_w]
  rfl
 refine one_ (i := 1) (N := (some 8)) #[tt,tt,ff,ff,ff,ff,ff,ff,ff,ff,ff,ff] rfl rfl (one_of HT_.out (by kernel_rfl)) (by decide) (fun K hK => ?_)
 refine call_ (f := 63) #[.agg e.cells] (by rfl) rfl (by go_simp <;> rfl) ?_
 refine (CR.out w2).mono ?_
 rintro r w3 ⟨rfl, hb⟩
 refine ⟨_, rfl, ?_⟩
 have HJ3 := Aside0.mk (HJ2.out.step hb)
 clear hb
 refine hK.out _ _ HJ3.out.cells (fun hHeld => ?_)
 clear hK K
 refine norm_ (a' := ?_) ?_ ?_
 rotate_left
 ·show Act.put _ (some 8) _ = _
  simp only [Act.put, sQ0, sQ1, sQ2, i64_w]
  rfl
 refine pure_ (i := 2) (N := (some 9)) (v := ?_) (a' := ?_) #[tt,tt,tt,ff,ff,ff,ff,ff,ff,ff,ff,ff] rfl rfl (any_of HT_.out (by kernel_rfl)) (fun _ _ _ h => h) (Or.inl ⟨by rfl, ?_⟩) ?_ ?_
 rotate_left
 ·intro w'
  go_simp
  with_reducible rfl
 rotate_left
 ·simp only [Act.put, sQ0, sQ1, sQ2, i64_w]
  rfl
 refine pure_ (i := 3) (N := (some 10)) (v := ?_) (a' := ?_) #[tt,tt,tt,tt,ff,ff,ff,ff,ff,ff,ff,ff] rfl rfl (any_of HT_.out (by kernel_rfl)) (fun _ _ _ h => h) (Or.inl ⟨by rfl, ?_⟩) ?_ ?_
 rotate_left
 ·intro w'
  go_simp
  with_reducible rfl
 rotate_left
 ·simp only [Act.put, sQ0, sQ1, sQ2, i64_w]
  rfl
 refine pure_ (i := 4) (N := (some 11)) (v := ?_) (a' := ?_) #[tt,tt,tt,tt,tt,ff,ff,ff,ff,ff,ff,ff] rfl rfl (any_of HT_.out (by kernel_rfl)) (fun _ _ _ h => h) (Or.inl ⟨by rfl, ?_⟩) ?_ ?_
 rotate_left
 ·intro w'
  go_simp
  with_reducible rfl
 rotate_left
 ·simp only [Act.put, sQ0, sQ1, sQ2, i64_w]
  rfl
 refine pure_ (i := 6) (N := (some 13)) (v := ?_) (a' := ?_) #[tt,tt,tt,tt,tt,ff,tt,ff,ff,ff,ff,ff] rfl rfl (any_of HT_.out (by kernel_rfl)) (fun _ _ _ h => h) (Or.inl ⟨by rfl, ?_⟩) ?_ ?_
 rotate_left
 ·intro w'
  go_simp
  with_reducible rfl
 rotate_left
 ·simp only [Act.put, sQ0, sQ1, sQ2, i64_w]
  rfl
 refine pure_ (i := 7) (N := (some 14)) (v := ?_) (a' := ?_) #[tt,tt,tt,tt,tt,ff,tt,tt,ff,ff,ff,ff] rfl rfl (any_of HT_.out (by kernel_rfl)) (fun _ _ _ h => h) (Or.inl ⟨by rfl, ?_⟩) ?_ ?_
 rotate_left
 ·intro w'
  go_simp
  with_reducible rfl
 rotate_left
 ·simp only [Act.put, sQ0, sQ1, sQ2, i64_w]
  rfl
 refine pure_ (i := 8) (N := (some 15)) (v := ?_) (a' := ?_) #[tt,tt,tt,tt,tt,ff,tt,tt,tt,ff,ff,ff] rfl rfl (any_of HT_.out (by kernel_rfl)) (fun _ _ _ h => h) (Or.inl ⟨by rfl, ?_⟩) ?_ ?_
 rotate_left
 ·intro w'
  go_simp
  with_reducible rfl
 rotate_left
 ·simp only [Act.put, sQ0, sQ1, sQ2, i64_w]
  rfl
 refine take_ (i := 5) (N := (some 12)) (v := ?_) (a' := ?_) #[tt,tt,tt,tt,tt,tt,tt,tt,tt,ff,ff,ff] rfl rfl (take_ofW HT_.out HW_.out (by kernel_rfl)) (fun _ _ _ h => h) (Or.inl ⟨by rfl, ?_⟩) hHeld ?_ ?_
 rotate_left
 ·rintro w' ⟨s0, s1⟩
  go_simp
  with_reducible rfl
 rotate_left
 ·simp only [Act.put, sQ0, sQ1, sQ2, i64_w]
  rfl
 refine take_ (i := 9) (N := (some 16)) (v := ?_) (a' := ?_) #[tt,tt,tt,tt,tt,tt,tt,tt,tt,tt,ff,ff] rfl rfl (take_ofW HT_.out HW_.out (by kernel_rfl)) (fun _ _ _ h => h) (Or.inl ⟨by rfl, ?_⟩) hHeld ?_ ?_
 rotate_left
 ·rintro w' ⟨s0, s1⟩
  go_simp
  with_reducible rfl
 rotate_left
 ·simp only [Act.put, sQ0, sQ1, sQ2, i64_w]
  rfl
 refine pure_ (i := 10) (N := (some 17)) (v := ?_) (a' := ?_) #[tt,tt,tt,tt,tt,tt,tt,tt,tt,tt,tt,ff] rfl rfl (any_of HT_.out (by kernel_rfl)) (fun _ _ _ h => h) (Or.inl ⟨by rfl, ?_⟩) ?_ ?_
 rotate_left
 ·intro w'
  go_simp
  with_reducible rfl
 rotate_left
 ·simp only [Act.put, sQ0, sQ1, sQ2, i64_w]
  rfl
 refine pure_ (i := 11) (N := (some 18)) (v := ?_) (a' := ?_) #[tt,tt,tt,tt,tt,tt,tt,tt,tt,tt,tt,tt] rfl rfl (any_of HT_.out (by kernel_rfl)) (fun _ _ _ h => h) (Or.inl ⟨by rfl, ?_⟩) ?_ ?_
 rotate_left
 ·intro w'
  go_simp
  with_reducible rfl
 rotate_left
 ·simp only [Act.put, sQ0, sQ1, sQ2, i64_w]
  rfl
 refine done_ (done_of HT_.out (by kernel_rfl)) ?_
 clear hHeld
 clear hlb hle
 have hcb := fun i => HJ3.out.be.cell i
 have hce := fun i => blk_cell HJ3.out.eb_ i
 have hlb := HJ3.out.be.lt
 have hle := blk_lt HJ3.out.eb_
 go_upto_region 3 with (fail)
 refine gen_world' (fun W => Vj w W B q g m wm n c b e w.heap.size) (by exact HJ3.out) fun w4 Hw4 => ?_
 have HJw4 := Aside0.mk Hw4
 clear Hw4
 clear hcb hce hlb hle
 refine start_ (n := 13) (S := (fun w' => (∀ i, w'.cell? ⟨q, i, none⟩ = (vbA g c.c0 wm)[i]?) ∧ (∀ i, w'.cell? ⟨w.heap.size, i, none⟩ = (e.cells)[i]?) ∧ (Instr.lookup 87 (.map (some wm)) (.int .i64 e.wk) true).run Try.prog w' = .ok (.tuple #[.agg (wkA k), .bool true]) w')) (ds := [11]) #[ff,ff,ff,ff,ff,ff,ff,ff,ff,ff,ff,ff,ff] (by kernel_rfl) rfl rfl ⟨HJw4.out.drew.cells.1, HJw4.out.drew.cells.2, HL.out w4.drew (VbIs.look HJw4.out.drew.be HWK.out _ rfl)⟩ (fun hHeld => ?_)
 refine with_tabW vhR.tab3 vhR.bits3 (fun HT_ HW_ => ?_)
 have HJ5 := Aside0.mk HJw4.out.drew
 generalize w4.drew = w5 at HJ5 hHeld ⊢
 have hlb := HJ5.out.be.lt
 have hle := blk_lt HJ5.out.eb_
 refine pure_ (i := 0) (N := (some 20)) (v := ?_) (a' := ?_) #[tt,ff,ff,ff,ff,ff,ff,ff,ff,ff,ff,ff,ff] rfl rfl (any_of HT_.out (by kernel_rfl)) (fun _ _ _ h => h) (Or.inl ⟨by rfl, ?_⟩) ?_ ?_
 rotate_left
 ·intro w'
  go_simp
  with_reducible rfl
 rotate_left
 ·simp only [Act.put, sQ0, sQ1, sQ2, i64_w]
  rfl
 refine pure_ (i := 1) (N := (some 21)) (v := ?_) (a' := ?_) #[tt,tt,ff,ff,ff,ff,ff,ff,ff,ff,ff,ff,ff] rfl rfl (any_of HT_.out (by kernel_rfl)) (fun _ _ _ h => h) (Or.inl ⟨by rfl, ?_⟩) ?_ ?_
 rotate_left
 ·intro w'
  go_simp
  with_reducible rfl
 rotate_left
 ·simp only [Act.put, sQ0, sQ1, sQ2, i64_w]
  rfl
 refine pure_ (i := 2) (N := (some 22)) (v := ?_) (a' := ?_) #[tt,tt,tt,ff,ff,ff,ff,ff,ff,ff,ff,ff,ff] rfl rfl (any_of HT_.out (by kernel_rfl)) (fun _ _ _ h => h) (Or.inl ⟨by rfl, ?_⟩) ?_ ?_
 rotate_left
 ·intro w'
  go_simp
  with_reducible rfl
 rotate_left
 ·simp only [Act.put, sQ0, sQ1, sQ2, i64_w]
  rfl
 refine pure_ (i := 4) (N := (some 24)) (v := ?_) (a' := ?_) #[tt,tt,tt,ff,tt,ff,ff,ff,ff,ff,ff,ff,ff] rfl rfl (any_of HT_.out (by kernel_rfl)) (fun _ _ _ h => h) (Or.inl ⟨by rfl, ?_⟩) ?_ ?_
 rotate_left
 ·intro w'
  go_simp
  with_reducible rfl
 rotate_left
 ·simp only [Act.put, sQ0, sQ1, sQ2, i64_w]
  rfl
 refine take_ (i := 3) (N := (some 23)) (v := ?_) (a' := ?_) #[tt,tt,tt,tt,tt,ff,ff,ff,ff,ff,ff,ff,ff] rfl rfl (take_ofW HT_.out HW_.out (by kernel_rfl)) (fun _ _ _ h => h) (Or.inl ⟨by rfl, ?_⟩) hHeld ?_ ?_
 rotate_left
 ·rintro w' ⟨s0, s1, s2⟩
  go_simp
  with_reducible rfl
 rotate_left
 ·simp only [Act.put, sQ0, sQ1, sQ2, i64_w]
  rfl
 refine take_ (i := 5) (N := (some 25)) (v := ?_) (a' := ?_) #[tt,tt,tt,tt,tt,tt,ff,ff,ff,ff,ff,ff,ff] rfl rfl (take_ofW HT_.out HW_.out (by kernel_rfl)) (fun _ _ _ h => h) (Or.inl ⟨by rfl, ?_⟩) hHeld ?_ ?_
 rotate_left
 ·rintro w' ⟨s0, s1, s2⟩
  go_simp
  with_reducible rfl
 rotate_left
 ·simp only [Act.put, sQ0, sQ1, sQ2, i64_w]
  rfl
 refine take_ (i := 6) (N := (some 26)) (v := ?_) (a' := ?_) #[tt,tt,tt,tt,tt,tt,tt,ff,ff,ff,ff,ff,ff] rfl rfl (take_ofW HT_.out HW_.out (by kernel_rfl)) (fun _ _ _ h => h) (Or.inl ⟨by rfl, ?_⟩) hHeld ?_ ?_
 rotate_left
 ·rintro w' ⟨s0, s1, s2⟩
  go_simp
  with_reducible rfl
 rotate_left
 ·simp only [Act.put, sQ0, sQ1, sQ2, i64_w]
  rfl
 refine pure_ (i := 7) (N := (some 19)) (v := ?_) (a' := ?_) #[tt,tt,tt,tt,tt,tt,tt,tt,ff,ff,ff,ff,ff] rfl rfl (any_of HT_.out (by kernel_rfl)) (fun _ _ _ h => h) (Or.inl ⟨by rfl, ?_⟩) ?_ ?_
 rotate_left
 ·intro w'
  go_simp
  with_reducible rfl
 rotate_left
 ·simp only [Act.put, sQ0, sQ1, sQ2, i64_w]
  rfl
 refine pure_ (i := 8) (N := (some 27)) (v := ?_) (a' := ?_) #[tt,tt,tt,tt,tt,tt,tt,tt,tt,ff,ff,ff,ff] rfl rfl (any_of HT_.out (by kernel_rfl)) (fun _ _ _ h => h) (Or.inl ⟨by rfl, ?_⟩) ?_ ?_
 rotate_left
 ·intro w'
  go_simp
  with_reducible rfl
 rotate_left
 ·simp only [Act.put, sQ0, sQ1, sQ2, i64_w]
  rfl
 refine pure_ (i := 9) (N := (some 28)) (v := ?_) (a' := ?_) #[tt,tt,tt,tt,tt,tt,tt,tt,tt,tt,ff,ff,ff] rfl rfl (any_of HT_.out (by kernel_rfl)) (fun _ _ _ h => h) (Or.inl ⟨by rfl, ?_⟩) ?_ ?_
 rotate_left
 ·intro w'
  go_simp
  with_reducible rfl
 rotate_left
 ·simp only [Act.put, sQ0, sQ1, sQ2, i64_w]
  rfl
 refine one_ (i := 10) (N := (some 5)) #[tt,tt,tt,tt,tt,tt,tt,tt,tt,tt,tt,ff,ff] rfl rfl (one_of HT_.out (by kernel_rfl)) (by decide) (fun K hK => ?_)
 refine value_ (by rfl) rfl (v := pA w5.heap.size) (w1 := w5.alloc (.cells (wkA wk0) 124)) (by go_simp <;> rfl) ?_
 refine hK.out _ _ ⟨(HJ5.out.alloc _).cells.1, (HJ5.out.alloc _).cells.2, HL.out _ (VbIs.look (HJ5.out.alloc _).be HWK.out _ rfl)⟩ (fun hHeld => ?_)
 clear hK K
 refine norm_ (a' := ?_) ?_ ?_
 rotate_left
 ·show Act.put _ (some 5) _ = _
  simp only [Act.put, sQ0, sQ1, sQ2, i64_w]
  rfl
 refine last_ (i := 11) (N := none) #[tt,tt,tt,tt,tt,tt,tt,tt,tt,tt,tt,tt,ff] rfl rfl (one_of HT_.out (by kernel_rfl)) (by decide) (fun K hK => ?_)
 refine skip_ (by rfl) rfl (w1 := w5.alloc (.cells (wkA k) 124)) (by go_simp <;> rfl) ?_
 refine hK.out _ _ ?_
 clear hK K
 refine pure_ (i := 12) (N := (some 6)) (v := ?_) (a' := ?_) #[tt,tt,tt,tt,tt,tt,tt,tt,tt,tt,tt,tt,tt] rfl rfl (any_of HT_.out (by kernel_rfl)) (fun _ _ _ h => h) (Or.inl ⟨by rfl, ?_⟩) ?_ ?_
 rotate_left
 ·intro w'
  go_simp
  with_reducible rfl
 rotate_left
 ·simp only [Act.put, sQ0, sQ1, sQ2, i64_w]
  rfl
 refine done_ (done_of HT_.out (by kernel_rfl)) ?_
 clear hHeld hlb hle
 obtain ⟨wb, hwb⟩ : ∃ wb, wb = w5.heap.size := ⟨_, rfl⟩
 have HW0 := Aside0.mk (show Wj w (w5.alloc (.cells (wkA k) 124)) B q g m wm n c b e w.heap.size k wb from ⟨HJ5.out.alloc _, by rw [hwb]; exact blk_new w5 _⟩)
 have HLE := Aside0.mk (show w.heap.size ≤ wb by rw [hwb]; exact HJ5.out.fr.size)
 rw [← hwb]
 obtain ⟨w6, hw6⟩ : ∃ w6, w6 = w5.alloc (.cells (wkA k) 124) := ⟨_, rfl⟩
 rw [← hw6]
 have HJ6 := Aside0.mk (show Wj w w6 B q g m wm n c b e w.heap.size k wb by rw [hw6]; exact HW0.out)
 clear hw6 HW0 hwb
 have hcb := fun i => HJ6.out.vj.be.cell i
 have hce := fun i => blk_cell HJ6.out.vj.eb_ i
 have hcw := fun i => blk_cell HJ6.out.wb_ i
 have hlb := HJ6.out.vj.be.lt
 have hle := blk_lt HJ6.out.vj.eb_
 have hlw := blk_lt HJ6.out.wb_
 rcases HC.out with hz | hz | hz | hz | hz
 ·have hk := hz; clear hz
  have HF := Aside0.mk (show hearV c b e = b.do_ c e 0 by have hr := HR.out; have hnw := HNW.out; have hs := HS.out; unfold hearV; rw [if_neg (fun q => by rcases q with q | q; (rw [hr] at q; cases q); omega)]; rw [if_pos hk])
  have k1 : (e.k == 1) = true := beq_iff_eq.2 (hk)
  have k2 : (e.k == 2) = false := beq_eq_false_iff_ne.2 (by omega)
  have k3 : (e.k == 3) = false := beq_eq_false_iff_ne.2 (by omega)
  have k4 : (e.k == 4) = false := beq_eq_false_iff_ne.2 (by omega)
  clear hk
  go_upto_region 6 with (fail)
  refine gen_world' (fun W => Wj w W B q g m wm n c b e w.heap.size k wb) (by exact HJ6.out) fun w7 Hw7 => ?_
  have HJw7 := Aside0.mk Hw7
  clear Hw7
  clear hcb hce hcw hlb hle hlw
  have hcb := fun i => HJw7.out.vj.be.cell i
  have hce := fun i => blk_cell HJw7.out.vj.eb_ i
  have hcw := fun i => blk_cell HJw7.out.wb_ i
  have hlb := HJw7.out.vj.be.lt
  have hle := blk_lt HJw7.out.vj.eb_
  have hlw := blk_lt HJw7.out.wb_
  refine start_ (n := 7) (S := (fun w' => (∀ i, w'.cell? ⟨q, i, none⟩ = (vbA g c.c0 wm)[i]?) ∧ (∀ i, w'.cell? ⟨w.heap.size, i, none⟩ = (e.cells)[i]?) ∧ (∀ i, w'.cell? ⟨wb, i, none⟩ = (wkA k)[i]?))) (ds := [5]) #[ff,ff,ff,ff,ff,ff,ff] (by kernel_rfl) rfl rfl HJw7.out.drew.cells (fun hHeld => ?_)
  refine with_tabW vhR.tab6 vhR.bits6 (fun HT_ HW_ => ?_)
  have HJ8 := Aside0.mk HJw7.out.drew
  generalize w7.drew = w8 at HJ8 hHeld ⊢
  clear hcb hce hcw hlb hle hlw
  have hlb := HJ8.out.vj.be.lt
  have hle := blk_lt HJ8.out.vj.eb_
  have hlw := blk_lt HJ8.out.wb_
  refine pure_ (i := 0) (N := (some 33)) (v := ?_) (a' := ?_) #[tt,ff,ff,ff,ff,ff,ff] rfl rfl (any_of HT_.out (by kernel_rfl)) (fun _ _ _ h => h) (Or.inl ⟨by rfl, ?_⟩) ?_ ?_
  rotate_left
  ·intro w'
   go_simp
   with_reducible rfl
  rotate_left
  ·simp only [Act.put, sQ0, sQ1, sQ2, i64_w]
   rfl
  refine pure_ (i := 1) (N := (some 34)) (v := ?_) (a' := ?_) #[tt,tt,ff,ff,ff,ff,ff] rfl rfl (any_of HT_.out (by kernel_rfl)) (fun _ _ _ h => h) (Or.inl ⟨by rfl, ?_⟩) ?_ ?_
  rotate_left
  ·intro w'
   go_simp
   with_reducible rfl
  rotate_left
  ·simp only [Act.put, sQ0, sQ1, sQ2, i64_w]
   rfl
  refine pure_ (i := 2) (N := (some 35)) (v := ?_) (a' := ?_) #[tt,tt,tt,ff,ff,ff,ff] rfl rfl (any_of HT_.out (by kernel_rfl)) (fun _ _ _ h => h) (Or.inl ⟨by rfl, ?_⟩) ?_ ?_
  rotate_left
  ·intro w'
   go_simp
   with_reducible rfl
  rotate_left
  ·simp only [Act.put, sQ0, sQ1, sQ2, i64_w]
   rfl
  refine take_ (i := 3) (N := (some 36)) (v := ?_) (a' := ?_) #[tt,tt,tt,tt,ff,ff,ff] rfl rfl (take_ofW HT_.out HW_.out (by kernel_rfl)) (fun _ _ _ h => h) (Or.inl ⟨by rfl, ?_⟩) hHeld ?_ ?_
  rotate_left
  ·rintro w' ⟨s0, s1, s2⟩
   go_simp
   with_reducible rfl
  rotate_left
  ·simp only [Act.put, sQ0, sQ1, sQ2, i64_w]
   rfl
  refine take_ (i := 4) (N := (some 37)) (v := ?_) (a' := ?_) #[tt,tt,tt,tt,tt,ff,ff] rfl rfl (take_ofW HT_.out HW_.out (by kernel_rfl)) (fun _ _ _ h => h) (Or.inl ⟨by rfl, ?_⟩) hHeld ?_ ?_
  rotate_left
  ·rintro w' ⟨s0, s1, s2⟩
   go_simp
   with_reducible rfl
  rotate_left
  ·simp only [Act.put, sQ0, sQ1, sQ2, i64_w]
   rfl
  refine last_ (i := 5) (N := (some 38)) #[tt,tt,tt,tt,tt,tt,ff] rfl rfl (one_of HT_.out (by kernel_rfl)) (by decide) (fun K hK => ?_)
  refine call_ (f := 38) #[pA g, .agg e.cells, .int .i64 0] (by rfl) rfl (by go_simp <;> rfl) ?_
  refine (vdo_any e 0 HX.out HN.out HJ8.out.vj.be).mono ?_
  rintro r w9 ⟨rfl, hm, hf⟩
  refine ⟨_, rfl, ?_⟩
  have HD := Aside0.mk (HJ8.out.turn hm hf)
  clear hm hf
  refine hK.out _ _ ?_
  clear hK K
  refine norm_ (a' := ?_) ?_ ?_
  rotate_left
  ·show Act.put _ (some 38) _ = _
   simp only [Act.put, sQ0, sQ1, sQ2, i64_w]
   rfl
  refine pure_ (i := 6) (N := (some 4)) (v := ?_) (a' := ?_) #[tt,tt,tt,tt,tt,tt,tt] rfl rfl (any_of HT_.out (by kernel_rfl)) (fun _ _ _ h => h) (Or.inl ⟨by rfl, ?_⟩) ?_ ?_
  rotate_left
  ·intro w'
   go_simp
   with_reducible rfl
  rotate_left
  ·simp only [Act.put, sQ0, sQ1, sQ2, i64_w]
   rfl
  refine done_ (done_of HT_.out (by kernel_rfl)) ?_
  clear hlb hle hlw
  go_wp2
  go_ret
  exact VPost.of HF.out rfl HD.out.vj.be HD.out.vj.fr
 ·have hk := hz; clear hz
  have HF := Aside0.mk (show hearV c b e = (b, 6) by have hr := HR.out; have hnw := HNW.out; have hs := HS.out; unfold hearV; rw [if_neg (fun q => by rcases q with q | q; (rw [hr] at q; cases q); omega)]; rw [if_neg (by omega), hs]; simp only; rw [if_pos hk])
  have k1 : (e.k == 1) = false := beq_eq_false_iff_ne.2 (by omega)
  have k2 : (e.k == 2) = true := beq_iff_eq.2 (hk)
  have k3 : (e.k == 3) = false := beq_eq_false_iff_ne.2 (by omega)
  have k4 : (e.k == 4) = false := beq_eq_false_iff_ne.2 (by omega)
  clear hk
  go_wp2
  go_ret
  exact VPost.of HF.out rfl (HJ6.out.vj.be.up (by omega)) HJ6.out.vj.fr
 ·obtain ⟨hk, ho⟩ := hz
  have HF := Aside0.mk (show hearV c b e = (b, 6) by have hr := HR.out; have hnw := HNW.out; have hs := HS.out; unfold hearV; rw [if_neg (fun q => by rcases q with q | q; (rw [hr] at q; cases q); omega)]; rw [if_neg (by omega), hs]; simp only; rw [if_neg (by omega), if_pos hk, if_pos (.inl ho)])
  have k1 : (e.k == 1) = false := beq_eq_false_iff_ne.2 (by omega)
  have k2 : (e.k == 2) = false := beq_eq_false_iff_ne.2 (by omega)
  have k3 : (e.k == 3) = false := beq_eq_false_iff_ne.2 (by omega)
  have k4 : (e.k == 4) = true := beq_iff_eq.2 (hk)
  have f0 : (k.e.op != 6) = true := bne_iff_ne.2 (ho)
  clear hk ho
  go_wp2
  go_ret
  exact VPost.of HF.out rfl (HJ6.out.vj.be.up (by omega)) HJ6.out.vj.fr
 ·obtain ⟨hk, ho, ht⟩ := hz
  have HF := Aside0.mk (show hearV c b e = (b, 6) by have hr := HR.out; have hnw := HNW.out; have hs := HS.out; unfold hearV; rw [if_neg (fun q => by rcases q with q | q; (rw [hr] at q; cases q); omega)]; rw [if_neg (by omega), hs]; simp only; rw [if_neg (by omega), if_pos hk, if_pos (.inr ht)])
  have k1 : (e.k == 1) = false := beq_eq_false_iff_ne.2 (by omega)
  have k2 : (e.k == 2) = false := beq_eq_false_iff_ne.2 (by omega)
  have k3 : (e.k == 3) = false := beq_eq_false_iff_ne.2 (by omega)
  have k4 : (e.k == 4) = true := beq_iff_eq.2 (hk)
  have f0 : (k.e.op != 6) = false := bne_eq_false_iff_eq.2 (ho)
  have f1 : decide (e.t < k.beg) = true := decide_eq_true ht
  clear hk ho ht
  go_wp2
  go_ret
  exact VPost.of HF.out rfl (HJ6.out.vj.be.up (by omega)) HJ6.out.vj.fr
 ·obtain ⟨hk, ho, ht⟩ := hz
  have HF := Aside0.mk (show hearV c b e = b.do_ c e 0 by have hr := HR.out; have hnw := HNW.out; have hs := HS.out; unfold hearV; rw [if_neg (fun q => by rcases q with q | q; (rw [hr] at q; cases q); omega)]; rw [if_neg (by omega), hs]; simp only; rw [if_neg (by omega), if_pos hk, if_neg (by omega)])
  have k1 : (e.k == 1) = false := beq_eq_false_iff_ne.2 (by omega)
  have k2 : (e.k == 2) = false := beq_eq_false_iff_ne.2 (by omega)
  have k3 : (e.k == 3) = false := beq_eq_false_iff_ne.2 (by omega)
  have k4 : (e.k == 4) = true := beq_iff_eq.2 (hk)
  have f0 : (k.e.op != 6) = false := bne_eq_false_iff_eq.2 (ho)
  have f1 : decide (e.t < k.beg) = false := decide_eq_false ht
  clear hk ho ht
  go_upto_region 15 with (fail)
  refine gen_world' (fun W => Wj w W B q g m wm n c b e w.heap.size k wb) (by exact HJ6.out) fun w7 Hw7 => ?_
  have HJw7 := Aside0.mk Hw7
  clear Hw7
  clear hcb hce hcw hlb hle hlw
  have hcb := fun i => HJw7.out.vj.be.cell i
  have hce := fun i => blk_cell HJw7.out.vj.eb_ i
  have hcw := fun i => blk_cell HJw7.out.wb_ i
  have hlb := HJw7.out.vj.be.lt
  have hle := blk_lt HJw7.out.vj.eb_
  have hlw := blk_lt HJw7.out.wb_
  refine start_ (n := 7) (S := (fun w' => (∀ i, w'.cell? ⟨q, i, none⟩ = (vbA g c.c0 wm)[i]?) ∧ (∀ i, w'.cell? ⟨w.heap.size, i, none⟩ = (e.cells)[i]?) ∧ (∀ i, w'.cell? ⟨wb, i, none⟩ = (wkA k)[i]?))) (ds := [5]) #[ff,ff,ff,ff,ff,ff,ff] (by kernel_rfl) rfl rfl HJw7.out.drew.cells (fun hHeld => ?_)
  refine with_tabW vhR.tab15 vhR.bits15 (fun HT_ HW_ => ?_)
  have HJ8 := Aside0.mk HJw7.out.drew
  generalize w7.drew = w8 at HJ8 hHeld ⊢
  clear hcb hce hcw hlb hle hlw
  have hlb := HJ8.out.vj.be.lt
  have hle := blk_lt HJ8.out.vj.eb_
  have hlw := blk_lt HJ8.out.wb_
  refine pure_ (i := 0) (N := (some 72)) (v := ?_) (a' := ?_) #[tt,ff,ff,ff,ff,ff,ff] rfl rfl (any_of HT_.out (by kernel_rfl)) (fun _ _ _ h => h) (Or.inl ⟨by rfl, ?_⟩) ?_ ?_
  rotate_left
  ·intro w'
   go_simp
   with_reducible rfl
  rotate_left
  ·simp only [Act.put, sQ0, sQ1, sQ2, i64_w]
   rfl
  refine pure_ (i := 1) (N := (some 73)) (v := ?_) (a' := ?_) #[tt,tt,ff,ff,ff,ff,ff] rfl rfl (any_of HT_.out (by kernel_rfl)) (fun _ _ _ h => h) (Or.inl ⟨by rfl, ?_⟩) ?_ ?_
  rotate_left
  ·intro w'
   go_simp
   with_reducible rfl
  rotate_left
  ·simp only [Act.put, sQ0, sQ1, sQ2, i64_w]
   rfl
  refine pure_ (i := 2) (N := (some 74)) (v := ?_) (a' := ?_) #[tt,tt,tt,ff,ff,ff,ff] rfl rfl (any_of HT_.out (by kernel_rfl)) (fun _ _ _ h => h) (Or.inl ⟨by rfl, ?_⟩) ?_ ?_
  rotate_left
  ·intro w'
   go_simp
   with_reducible rfl
  rotate_left
  ·simp only [Act.put, sQ0, sQ1, sQ2, i64_w]
   rfl
  refine take_ (i := 3) (N := (some 75)) (v := ?_) (a' := ?_) #[tt,tt,tt,tt,ff,ff,ff] rfl rfl (take_ofW HT_.out HW_.out (by kernel_rfl)) (fun _ _ _ h => h) (Or.inl ⟨by rfl, ?_⟩) hHeld ?_ ?_
  rotate_left
  ·rintro w' ⟨s0, s1, s2⟩
   go_simp
   with_reducible rfl
  rotate_left
  ·simp only [Act.put, sQ0, sQ1, sQ2, i64_w]
   rfl
  refine take_ (i := 4) (N := (some 76)) (v := ?_) (a' := ?_) #[tt,tt,tt,tt,tt,ff,ff] rfl rfl (take_ofW HT_.out HW_.out (by kernel_rfl)) (fun _ _ _ h => h) (Or.inl ⟨by rfl, ?_⟩) hHeld ?_ ?_
  rotate_left
  ·rintro w' ⟨s0, s1, s2⟩
   go_simp
   with_reducible rfl
  rotate_left
  ·simp only [Act.put, sQ0, sQ1, sQ2, i64_w]
   rfl
  refine last_ (i := 5) (N := (some 77)) #[tt,tt,tt,tt,tt,tt,ff] rfl rfl (one_of HT_.out (by kernel_rfl)) (by decide) (fun K hK => ?_)
  refine call_ (f := 38) #[pA g, .agg e.cells, .int .i64 0] (by rfl) rfl (by go_simp <;> rfl) ?_
  refine (vdo_any e 0 HX.out HN.out HJ8.out.vj.be).mono ?_
  rintro r w9 ⟨rfl, hm, hf⟩
  refine ⟨_, rfl, ?_⟩
  have HD := Aside0.mk (HJ8.out.turn hm hf)
  clear hm hf
  refine hK.out _ _ ?_
  clear hK K
  refine norm_ (a' := ?_) ?_ ?_
  rotate_left
  ·show Act.put _ (some 77) _ = _
   simp only [Act.put, sQ0, sQ1, sQ2, i64_w]
   rfl
  refine pure_ (i := 6) (N := (some 4)) (v := ?_) (a' := ?_) #[tt,tt,tt,tt,tt,tt,tt] rfl rfl (any_of HT_.out (by kernel_rfl)) (fun _ _ _ h => h) (Or.inl ⟨by rfl, ?_⟩) ?_ ?_
  rotate_left
  ·intro w'
   go_simp
   with_reducible rfl
  rotate_left
  ·simp only [Act.put, sQ0, sQ1, sQ2, i64_w]
   rfl
  refine done_ (done_of HT_.out (by kernel_rfl)) ?_
  clear hlb hle hlw
  go_wp2
  go_ret
  exact VPost.of HF.out rfl HD.out.vj.be HD.out.vj.fr
theorem vhear_busy_b {w : World} {B q g m wm n : Nat} {c : Cf} {b : Vb} {k : Wk} (e : Ev7) (hx : (Lit.int .i64 e.cn).wf = true) (hwk : (Lit.int .i64 e.wk).wf = true) (hn : n + 1 ≤ 1000000) (h : VbIs w B q g m wm n c b) (hr : rightV e = true) (hnw : ¬ c.c0 ≤ e.wk) (hs : b.wks e.wk = some k) (hcs : ((e.k = 3 ∨ e.k = 5) ∧ ¬ k.e.op = e.op) ∨ (e.k = 3 ∧ k.e.op = e.op) ∨ (e.k = 5 ∧ k.e.op = e.op ∧ ¬ e.op = 6 ∧ k.pt = false) ∨ (e.k = 5 ∧ k.e.op = e.op ∧ ¬ e.op = 6 ∧ k.pt = true ∧ ¬ k.cd = e.er) ∨ (e.k = 5 ∧ k.e.op = e.op ∧ e.op = 6) ∨ (e.k = 5 ∧ k.e.op = e.op ∧ ¬ e.op = 6 ∧ k.pt = true ∧ k.cd = e.er)) :
  Calls Try.prog 51 #[pA q, .agg e.cells] w (VPost w B q g m wm n c (hearV c b e)) := by
 have hu0 := Try.underlying89
 have hu1 := Try.underlying60
 have hu2 := Try.underlying124
 have hr0 := hr
 have d0 : decide (e.wk ≥ c.c0) = false := decide_eq_false hnw
 have CR := Aside0.mk (fun W => vright_run e W)
 rw [hr] at CR
 have HX := Aside0.mk hx
 have HWK := Aside0.mk hwk
 have HN := Aside0.mk hn
 have HJ := Aside0.mk (show Vj w (w.alloc (.cells e.cells 60)) B q g m wm n c b e w.heap.size from ⟨h.alloc _, blk_new w _, (Fr.refl w _).alloc _⟩)
 have HR := Aside0.mk hr0
 have HNW := Aside0.mk hnw
 have HC := Aside0.mk hcs
 have HL := Aside0.mk (fun (W : World) (hl : (Instr.lookup 87 (.map (some wm)) (.int .i64 e.wk) true).run Try.prog W = .ok (.tuple #[.agg (wkA ((b.wks e.wk).getD wk0)), .bool (b.wks e.wk).isSome]) W) => (show (Instr.lookup 87 (.map (some wm)) (.int .i64 e.wk) true).run Try.prog W = .ok (.tuple #[.agg (wkA k), .bool true]) W by rw [hs] at hl; exact hl))
 have HS := Aside0.mk hs
 clear hx hwk hn h hr hr0 hnw hs hcs
 have hcb := fun i => HJ.out.be.cell i
 have hce := fun i => blk_cell HJ.out.eb_ i
 have hlb := HJ.out.be.lt
 have hle := blk_lt HJ.out.eb_
 go_enter Try.func51, Try.ntmps51
 go_upto_region 1 with (fail)
 refine start_ (n := 12) (S := (fun w' => (∀ i, w'.cell? ⟨q, i, none⟩ = (vbA g c.c0 wm)[i]?) ∧ (∀ i, w'.cell? ⟨w.heap.size, i, none⟩ = (e.cells)[i]?))) (ds := []) #[ff,ff,ff,ff,ff,ff,ff,ff,ff,ff,ff,ff] (by kernel_rfl) rfl rfl HJ.out.drew.cells (fun hHeld => ?_)
 refine with_tabW vhR.tab1 vhR.bits1 (fun HT_ HW_ => ?_)
 have HJ2 := Aside0.mk HJ.out.drew
 generalize World.drew _ = w2 at HJ2 hHeld ⊢
 clear hcb hce hlb hle
 have hlb := HJ2.out.be.lt
 have hle := blk_lt HJ2.out.eb_
 refine take_ (i := 0) (N := (some 7)) (v := ?_) (a' := ?_) #[tt,ff,ff,ff,ff,ff,ff,ff,ff,ff,ff,ff] rfl rfl (take_ofW HT_.out HW_.out (by kernel_rfl)) (fun _ _ _ h => h) (Or.inl ⟨by rfl, ?_⟩) hHeld ?_ ?_
 rotate_left
 ·rintro w' ⟨s0, s1⟩
  go_simp
  with_reducible rfl
 rotate_left
 ·simp only [Act.put, sQ0, sQ1, sQ2, i64_w]
  rfl
 refine one_ (i := 1) (N := (some 8)) #[tt,tt,ff,ff,ff,ff,ff,ff,ff,ff,ff,ff] rfl rfl (one_of HT_.out (by kernel_rfl)) (by decide) (fun K hK => ?_)
 refine call_ (f := 63) #[.agg e.cells] (by rfl) rfl (by go_simp <;> rfl) ?_
 refine (CR.out w2).mono ?_
 rintro r w3 ⟨rfl, hb⟩
 refine ⟨_, rfl, ?_⟩
 have HJ3 := Aside0.mk (HJ2.out.step hb)
 clear hb
 refine hK.out _ _ HJ3.out.cells (fun hHeld => ?_)
 clear hK K
 refine norm_ (a' := ?_) ?_ ?_
 rotate_left
 ·show Act.put _ (some 8) _ = _
  simp only [Act.put, sQ0, sQ1, sQ2, i64_w]
  rfl
 refine pure_ (i := 2) (N := (some 9)) (v := ?_) (a' := ?_) #[tt,tt,tt,ff,ff,ff,ff,ff,ff,ff,ff,ff] rfl rfl (any_of HT_.out (by kernel_rfl)) (fun _ _ _ h => h) (Or.inl ⟨by rfl, ?_⟩) ?_ ?_
 rotate_left
 ·intro w'
  go_simp
  with_reducible rfl
 rotate_left
 ·simp only [Act.put, sQ0, sQ1, sQ2, i64_w]
  rfl
 refine pure_ (i := 3) (N := (some 10)) (v := ?_) (a' := ?_) #[tt,tt,tt,tt,ff,ff,ff,ff,ff,ff,ff,ff] rfl rfl (any_of HT_.out (by kernel_rfl)) (fun _ _ _ h => h) (Or.inl ⟨by rfl, ?_⟩) ?_ ?_
 rotate_left
 ·intro w'
  go_simp
  with_reducible rfl
 rotate_left
 ·simp only [Act.put, sQ0, sQ1, sQ2, i64_w]
  rfl
 refine pure_ (i := 4) (N := (some 11)) (v := ?_) (a' := ?_) #[tt,tt,tt,tt,tt,ff,ff,ff,ff,ff,ff,ff] rfl rfl (any_of HT_.out (by kernel_rfl)) (fun _ _ _ h => h) (Or.inl ⟨by rfl, ?_⟩) ?_ ?_
 rotate_left
 ·intro w'
  go_simp
  with_reducible rfl
 rotate_left
 ·simp only [Act.put, sQ0, sQ1, sQ2, i64_w]
  rfl
 refine pure_ (i := 6) (N := (some 13)) (v := ?_) (a' := ?_) #[tt,tt,tt,tt,tt,ff,tt,ff,ff,ff,ff,ff] rfl rfl (any_of HT_.out (by kernel_rfl)) (fun _ _ _ h => h) (Or.inl ⟨by rfl, ?_⟩) ?_ ?_
 rotate_left
 ·intro w'
  go_simp
  with_reducible rfl
 rotate_left
 ·simp only [Act.put, sQ0, sQ1, sQ2, i64_w]
  rfl
 refine pure_ (i := 7) (N := (some 14)) (v := ?_) (a' := ?_) #[tt,tt,tt,tt,tt,ff,tt,tt,ff,ff,ff,ff] rfl rfl (any_of HT_.out (by kernel_rfl)) (fun _ _ _ h => h) (Or.inl ⟨by rfl, ?_⟩) ?_ ?_
 rotate_left
 ·intro w'
  go_simp
  with_reducible rfl
 rotate_left
 ·simp only [Act.put, sQ0, sQ1, sQ2, i64_w]
  rfl
 refine pure_ (i := 8) (N := (some 15)) (v := ?_) (a' := ?_) #[tt,tt,tt,tt,tt,ff,tt,tt,tt,ff,ff,ff] rfl rfl (any_of HT_.out (by kernel_rfl)) (fun _ _ _ h => h) (Or.inl ⟨by rfl, ?_⟩) ?_ ?_
 rotate_left
 ·intro w'
  go_simp
  with_reducible rfl
 rotate_left
 ·simp only [Act.put, sQ0, sQ1, sQ2, i64_w]
  rfl
 refine take_ (i := 5) (N := (some 12)) (v := ?_) (a' := ?_) #[tt,tt,tt,tt,tt,tt,tt,tt,tt,ff,ff,ff] rfl rfl (take_ofW HT_.out HW_.out (by kernel_rfl)) (fun _ _ _ h => h) (Or.inl ⟨by rfl, ?_⟩) hHeld ?_ ?_
 rotate_left
 ·rintro w' ⟨s0, s1⟩
  go_simp
  with_reducible rfl
 rotate_left
 ·simp only [Act.put, sQ0, sQ1, sQ2, i64_w]
  rfl
 refine take_ (i := 9) (N := (some 16)) (v := ?_) (a' := ?_) #[tt,tt,tt,tt,tt,tt,tt,tt,tt,tt,ff,ff] rfl rfl (take_ofW HT_.out HW_.out (by kernel_rfl)) (fun _ _ _ h => h) (Or.inl ⟨by rfl, ?_⟩) hHeld ?_ ?_
 rotate_left
 ·rintro w' ⟨s0, s1⟩
  go_simp
  with_reducible rfl
 rotate_left
 ·simp only [Act.put, sQ0, sQ1, sQ2, i64_w]
  rfl
 refine pure_ (i := 10) (N := (some 17)) (v := ?_) (a' := ?_) #[tt,tt,tt,tt,tt,tt,tt,tt,tt,tt,tt,ff] rfl rfl (any_of HT_.out (by kernel_rfl)) (fun _ _ _ h => h) (Or.inl ⟨by rfl, ?_⟩) ?_ ?_
 rotate_left
 ·intro w'
  go_simp
  with_reducible rfl
 rotate_left
 ·simp only [Act.put, sQ0, sQ1, sQ2, i64_w]
  rfl
 refine pure_ (i := 11) (N := (some 18)) (v := ?_) (a' := ?_) #[tt,tt,tt,tt,tt,tt,tt,tt,tt,tt,tt,tt] rfl rfl (any_of HT_.out (by kernel_rfl)) (fun _ _ _ h => h) (Or.inl ⟨by rfl, ?_⟩) ?_ ?_
 rotate_left
 ·intro w'
  go_simp
  with_reducible rfl
 rotate_left
 ·simp only [Act.put, sQ0, sQ1, sQ2, i64_w]
  rfl
 refine done_ (done_of HT_.out (by kernel_rfl)) ?_
 clear hHeld
 clear hlb hle
 have hcb := fun i => HJ3.out.be.cell i
 have hce := fun i => blk_cell HJ3.out.eb_ i
 have hlb := HJ3.out.be.lt
 have hle := blk_lt HJ3.out.eb_
 go_upto_region 3 with (fail)
 refine gen_world' (fun W => Vj w W B q g m wm n c b e w.heap.size) (by exact HJ3.out) fun w4 Hw4 => ?_
 have HJw4 := Aside0.mk Hw4
 clear Hw4
 clear hcb hce hlb hle
 refine start_ (n := 13) (S := (fun w' => (∀ i, w'.cell? ⟨q, i, none⟩ = (vbA g c.c0 wm)[i]?) ∧ (∀ i, w'.cell? ⟨w.heap.size, i, none⟩ = (e.cells)[i]?) ∧ (Instr.lookup 87 (.map (some wm)) (.int .i64 e.wk) true).run Try.prog w' = .ok (.tuple #[.agg (wkA k), .bool true]) w')) (ds := [11]) #[ff,ff,ff,ff,ff,ff,ff,ff,ff,ff,ff,ff,ff] (by kernel_rfl) rfl rfl ⟨HJw4.out.drew.cells.1, HJw4.out.drew.cells.2, HL.out w4.drew (VbIs.look HJw4.out.drew.be HWK.out _ rfl)⟩ (fun hHeld => ?_)
 refine with_tabW vhR.tab3 vhR.bits3 (fun HT_ HW_ => ?_)
 have HJ5 := Aside0.mk HJw4.out.drew
 generalize w4.drew = w5 at HJ5 hHeld ⊢
 have hlb := HJ5.out.be.lt
 have hle := blk_lt HJ5.out.eb_
 refine pure_ (i := 0) (N := (some 20)) (v := ?_) (a' := ?_) #[tt,ff,ff,ff,ff,ff,ff,ff,ff,ff,ff,ff,ff] rfl rfl (any_of HT_.out (by kernel_rfl)) (fun _ _ _ h => h) (Or.inl ⟨by rfl, ?_⟩) ?_ ?_
 rotate_left
 ·intro w'
  go_simp
  with_reducible rfl
 rotate_left
 ·simp only [Act.put, sQ0, sQ1, sQ2, i64_w]
  rfl
 refine pure_ (i := 1) (N := (some 21)) (v := ?_) (a' := ?_) #[tt,tt,ff,ff,ff,ff,ff,ff,ff,ff,ff,ff,ff] rfl rfl (any_of HT_.out (by kernel_rfl)) (fun _ _ _ h => h) (Or.inl ⟨by rfl, ?_⟩) ?_ ?_
 rotate_left
 ·intro w'
  go_simp
  with_reducible rfl
 rotate_left
 ·simp only [Act.put, sQ0, sQ1, sQ2, i64_w]
  rfl
 refine pure_ (i := 2) (N := (some 22)) (v := ?_) (a' := ?_) #[tt,tt,tt,ff,ff,ff,ff,ff,ff,ff,ff,ff,ff] rfl rfl (any_of HT_.out (by kernel_rfl)) (fun _ _ _ h => h) (Or.inl ⟨by rfl, ?_⟩) ?_ ?_
 rotate_left
 ·intro w'
  go_simp
  with_reducible rfl
 rotate_left
 ·simp only [Act.put, sQ0, sQ1, sQ2, i64_w]
  rfl
 refine pure_ (i := 4) (N := (some 24)) (v := ?_) (a' := ?_) #[tt,tt,tt,ff,tt,ff,ff,ff,ff,ff,ff,ff,ff] rfl rfl (any_of HT_.out (by kernel_rfl)) (fun _ _ _ h => h) (Or.inl ⟨by rfl, ?_⟩) ?_ ?_
 rotate_left
 ·intro w'
  go_simp
  with_reducible rfl
 rotate_left
 ·simp only [Act.put, sQ0, sQ1, sQ2, i64_w]
  rfl
 refine take_ (i := 3) (N := (some 23)) (v := ?_) (a' := ?_) #[tt,tt,tt,tt,tt,ff,ff,ff,ff,ff,ff,ff,ff] rfl rfl (take_ofW HT_.out HW_.out (by kernel_rfl)) (fun _ _ _ h => h) (Or.inl ⟨by rfl, ?_⟩) hHeld ?_ ?_
 rotate_left
 ·rintro w' ⟨s0, s1, s2⟩
  go_simp
  with_reducible rfl
 rotate_left
 ·simp only [Act.put, sQ0, sQ1, sQ2, i64_w]
  rfl
 refine take_ (i := 5) (N := (some 25)) (v := ?_) (a' := ?_) #[tt,tt,tt,tt,tt,tt,ff,ff,ff,ff,ff,ff,ff] rfl rfl (take_ofW HT_.out HW_.out (by kernel_rfl)) (fun _ _ _ h => h) (Or.inl ⟨by rfl, ?_⟩) hHeld ?_ ?_
 rotate_left
 ·rintro w' ⟨s0, s1, s2⟩
  go_simp
  with_reducible rfl
 rotate_left
 ·simp only [Act.put, sQ0, sQ1, sQ2, i64_w]
  rfl
 refine take_ (i := 6) (N := (some 26)) (v := ?_) (a' := ?_) #[tt,tt,tt,tt,tt,tt,tt,ff,ff,ff,ff,ff,ff] rfl rfl (take_ofW HT_.out HW_.out (by kernel_rfl)) (fun _ _ _ h => h) (Or.inl ⟨by rfl, ?_⟩) hHeld ?_ ?_
 rotate_left
 ·rintro w' ⟨s0, s1, s2⟩
  go_simp
  with_reducible rfl
 rotate_left
 ·simp only [Act.put, sQ0, sQ1, sQ2, i64_w]
  rfl
 refine pure_ (i := 7) (N := (some 19)) (v := ?_) (a' := ?_) #[tt,tt,tt,tt,tt,tt,tt,tt,ff,ff,ff,ff,ff] rfl rfl (any_of HT_.out (by kernel_rfl)) (fun _ _ _ h => h) (Or.inl ⟨by rfl, ?_⟩) ?_ ?_
 rotate_left
 ·intro w'
  go_simp
  with_reducible rfl
 rotate_left
 ·simp only [Act.put, sQ0, sQ1, sQ2, i64_w]
  rfl
 refine pure_ (i := 8) (N := (some 27)) (v := ?_) (a' := ?_) #[tt,tt,tt,tt,tt,tt,tt,tt,tt,ff,ff,ff,ff] rfl rfl (any_of HT_.out (by kernel_rfl)) (fun _ _ _ h => h) (Or.inl ⟨by rfl, ?_⟩) ?_ ?_
 rotate_left
 ·intro w'
  go_simp
  with_reducible rfl
 rotate_left
 ·simp only [Act.put, sQ0, sQ1, sQ2, i64_w]
  rfl
 refine pure_ (i := 9) (N := (some 28)) (v := ?_) (a' := ?_) #[tt,tt,tt,tt,tt,tt,tt,tt,tt,tt,ff,ff,ff] rfl rfl (any_of HT_.out (by kernel_rfl)) (fun _ _ _ h => h) (Or.inl ⟨by rfl, ?_⟩) ?_ ?_
 rotate_left
 ·intro w'
  go_simp
  with_reducible rfl
 rotate_left
 ·simp only [Act.put, sQ0, sQ1, sQ2, i64_w]
  rfl
 refine one_ (i := 10) (N := (some 5)) #[tt,tt,tt,tt,tt,tt,tt,tt,tt,tt,tt,ff,ff] rfl rfl (one_of HT_.out (by kernel_rfl)) (by decide) (fun K hK => ?_)
 refine value_ (by rfl) rfl (v := pA w5.heap.size) (w1 := w5.alloc (.cells (wkA wk0) 124)) (by go_simp <;> rfl) ?_
 refine hK.out _ _ ⟨(HJ5.out.alloc _).cells.1, (HJ5.out.alloc _).cells.2, HL.out _ (VbIs.look (HJ5.out.alloc _).be HWK.out _ rfl)⟩ (fun hHeld => ?_)
 clear hK K
 refine norm_ (a' := ?_) ?_ ?_
 rotate_left
 ·show Act.put _ (some 5) _ = _
  simp only [Act.put, sQ0, sQ1, sQ2, i64_w]
  rfl
 refine last_ (i := 11) (N := none) #[tt,tt,tt,tt,tt,tt,tt,tt,tt,tt,tt,tt,ff] rfl rfl (one_of HT_.out (by kernel_rfl)) (by decide) (fun K hK => ?_)
 refine skip_ (by rfl) rfl (w1 := w5.alloc (.cells (wkA k) 124)) (by go_simp <;> rfl) ?_
 refine hK.out _ _ ?_
 clear hK K
 refine pure_ (i := 12) (N := (some 6)) (v := ?_) (a' := ?_) #[tt,tt,tt,tt,tt,tt,tt,tt,tt,tt,tt,tt,tt] rfl rfl (any_of HT_.out (by kernel_rfl)) (fun _ _ _ h => h) (Or.inl ⟨by rfl, ?_⟩) ?_ ?_
 rotate_left
 ·intro w'
  go_simp
  with_reducible rfl
 rotate_left
 ·simp only [Act.put, sQ0, sQ1, sQ2, i64_w]
  rfl
 refine done_ (done_of HT_.out (by kernel_rfl)) ?_
 clear hHeld hlb hle
 obtain ⟨wb, hwb⟩ : ∃ wb, wb = w5.heap.size := ⟨_, rfl⟩
 have HW0 := Aside0.mk (show Wj w (w5.alloc (.cells (wkA k) 124)) B q g m wm n c b e w.heap.size k wb from ⟨HJ5.out.alloc _, by rw [hwb]; exact blk_new w5 _⟩)
 have HLE := Aside0.mk (show w.heap.size ≤ wb by rw [hwb]; exact HJ5.out.fr.size)
 rw [← hwb]
 obtain ⟨w6, hw6⟩ : ∃ w6, w6 = w5.alloc (.cells (wkA k) 124) := ⟨_, rfl⟩
 rw [← hw6]
 have HJ6 := Aside0.mk (show Wj w w6 B q g m wm n c b e w.heap.size k wb by rw [hw6]; exact HW0.out)
 clear hw6 HW0 hwb
 have hcb := fun i => HJ6.out.vj.be.cell i
 have hce := fun i => blk_cell HJ6.out.vj.eb_ i
 have hcw := fun i => blk_cell HJ6.out.wb_ i
 have hlb := HJ6.out.vj.be.lt
 have hle := blk_lt HJ6.out.vj.eb_
 have hlw := blk_lt HJ6.out.wb_
 rcases HC.out with hz | hz | hz | hz | hz | hz
 ·obtain ⟨hk, ho⟩ := hz
  have HF := Aside0.mk (show hearV c b e = (b, 6) by have hr := HR.out; have hnw := HNW.out; have hs := HS.out; unfold hearV; rw [if_neg (fun q => by rcases q with q | q; (rw [hr] at q; cases q); omega)]; rw [if_neg (by omega), hs]; simp only; rw [if_neg (by omega), if_neg (by omega), if_pos ho])
  have k1 : (e.k == 1) = false := beq_eq_false_iff_ne.2 (by omega)
  have k2 : (e.k == 2) = false := beq_eq_false_iff_ne.2 (by omega)
  have k4 : (e.k == 4) = false := beq_eq_false_iff_ne.2 (by omega)
  have f0 : (k.e.op != e.op) = true := bne_iff_ne.2 (ho)
  clear hk ho
  go_wp2
  go_ret
  exact VPost.of HF.out rfl (HJ6.out.vj.be.up (by omega)) HJ6.out.vj.fr
 ·obtain ⟨hk, ho⟩ := hz
  have HF := Aside0.mk (show hearV c b e = pointV c b k e by have hr := HR.out; have hnw := HNW.out; have hs := HS.out; unfold hearV; rw [if_neg (fun q => by rcases q with q | q; (rw [hr] at q; cases q); omega)]; rw [if_neg (by omega), hs]; simp only; rw [if_neg (by omega), if_neg (by omega), if_neg (by omega), if_pos hk])
  have k1 : (e.k == 1) = false := beq_eq_false_iff_ne.2 (by omega)
  have k2 : (e.k == 2) = false := beq_eq_false_iff_ne.2 (by omega)
  have k3 : (e.k == 3) = true := beq_iff_eq.2 (hk)
  have k4 : (e.k == 4) = false := beq_eq_false_iff_ne.2 (by omega)
  have f0 : (k.e.op != e.op) = false := bne_eq_false_iff_eq.2 (ho)
  clear hk ho
  have CP : Aside0 (∀ W, Wj w W B q g m wm n c b e w.heap.size k wb → Calls Try.prog 74 #[pA q, .agg (wkA k), .agg e.cells] W (VPost W B q g m wm n c (pointV c b k e))) := ⟨fun W hW => vpoint_any e HX.out HWK.out HN.out hW.vj.be HS.out⟩
  go_wp2_with (go_at_call 74; (with_reducible refine (CP.out _ (by exact HJ6.out)).mono ?_); rintro r w7 ⟨rfl, hm, hf⟩; have HD := Aside0.mk (HJ6.out.turn hm hf); clear hm hf)
  go_ret
  exact VPost.of HF.out rfl HD.out.vj.be HD.out.vj.fr
 ·obtain ⟨hk, ho, h6, hp⟩ := hz
  have HF := Aside0.mk (show hearV c b e = (b, 6) by have hr := HR.out; have hnw := HNW.out; have hs := HS.out; unfold hearV; rw [if_neg (fun q => by rcases q with q | q; (rw [hr] at q; cases q); omega)]; rw [if_neg (by omega), hs]; simp only; rw [if_neg (by omega), if_neg (by omega), if_neg (by omega), if_neg (by omega), if_pos ⟨h6, .inl hp⟩])
  have k1 : (e.k == 1) = false := beq_eq_false_iff_ne.2 (by omega)
  have k2 : (e.k == 2) = false := beq_eq_false_iff_ne.2 (by omega)
  have k3 : (e.k == 3) = false := beq_eq_false_iff_ne.2 (by omega)
  have k4 : (e.k == 4) = false := beq_eq_false_iff_ne.2 (by omega)
  have f0 : (k.e.op != e.op) = false := bne_eq_false_iff_eq.2 (ho)
  have f6 : (e.op != 6) = true := bne_iff_ne.2 (h6)
  have p0 := hp
  clear hk ho h6 hp
  go_wp2
  go_ret
  exact VPost.of HF.out rfl (HJ6.out.vj.be.up (by omega)) HJ6.out.vj.fr
 ·obtain ⟨hk, ho, h6, hp, hc⟩ := hz
  have HF := Aside0.mk (show hearV c b e = (b, 6) by have hr := HR.out; have hnw := HNW.out; have hs := HS.out; unfold hearV; rw [if_neg (fun q => by rcases q with q | q; (rw [hr] at q; cases q); omega)]; rw [if_neg (by omega), hs]; simp only; rw [if_neg (by omega), if_neg (by omega), if_neg (by omega), if_neg (by omega), if_pos ⟨h6, .inr hc⟩])
  have k1 : (e.k == 1) = false := beq_eq_false_iff_ne.2 (by omega)
  have k2 : (e.k == 2) = false := beq_eq_false_iff_ne.2 (by omega)
  have k3 : (e.k == 3) = false := beq_eq_false_iff_ne.2 (by omega)
  have k4 : (e.k == 4) = false := beq_eq_false_iff_ne.2 (by omega)
  have f0 : (k.e.op != e.op) = false := bne_eq_false_iff_eq.2 (ho)
  have f6 : (e.op != 6) = true := bne_iff_ne.2 (h6)
  have p0 := hp
  have f7 : (k.cd != e.er) = true := bne_iff_ne.2 (hc)
  clear hk ho h6 hp hc
  go_wp2
  go_ret
  exact VPost.of HF.out rfl (HJ6.out.vj.be.up (by omega)) HJ6.out.vj.fr
 ·obtain ⟨hk, ho, h6⟩ := hz
  have HF := Aside0.mk (show hearV c b e = ({ b with wks := updW b.wks e.wk none }, 0) by have hr := HR.out; have hnw := HNW.out; have hs := HS.out; unfold hearV; rw [if_neg (fun q => by rcases q with q | q; (rw [hr] at q; cases q); omega)]; rw [if_neg (by omega), hs]; simp only; rw [if_neg (by omega), if_neg (by omega), if_neg (by omega), if_neg (by omega), if_neg (fun q => q.1 h6)])
  have k1 : (e.k == 1) = false := beq_eq_false_iff_ne.2 (by omega)
  have k2 : (e.k == 2) = false := beq_eq_false_iff_ne.2 (by omega)
  have k3 : (e.k == 3) = false := beq_eq_false_iff_ne.2 (by omega)
  have k4 : (e.k == 4) = false := beq_eq_false_iff_ne.2 (by omega)
  have f0 : (k.e.op != e.op) = false := bne_eq_false_iff_eq.2 (ho)
  have f6 : (e.op != 6) = false := bne_eq_false_iff_eq.2 (h6)
  clear hk ho h6
  go_upto_region 22 with (fail)
  refine gen_world' (fun W => Wj w W B q g m wm n c b e w.heap.size k wb) (by exact HJ6.out) fun w7 Hw7 => ?_
  have HJw7 := Aside0.mk Hw7
  clear Hw7
  clear hcb hce hcw hlb hle hlw
  have hcb := fun i => HJw7.out.vj.be.cell i
  have hce := fun i => blk_cell HJw7.out.vj.eb_ i
  have hcw := fun i => blk_cell HJw7.out.wb_ i
  have hlb := HJw7.out.vj.be.lt
  have hle := blk_lt HJw7.out.vj.eb_
  have hlw := blk_lt HJw7.out.wb_
  refine still_tail_at' 6 (by kernel_rfl) (by kernel_rfl) fun w8 hw8 => ?_
  have HJ8 := Aside0.mk (show Wj w w8 B q g m wm n c b e w.heap.size k wb by rw [hw8]; exact HJw7.out.drew)
  clear hw8
  clear hcb hce hcw hlb hle hlw
  have hcb := fun i => HJ8.out.vj.be.cell i
  have hce := fun i => blk_cell HJ8.out.vj.eb_ i
  have hcw := fun i => blk_cell HJ8.out.wb_ i
  have hlb := HJ8.out.vj.be.lt
  have hle := blk_lt HJ8.out.vj.eb_
  have hlw := blk_lt HJ8.out.wb_
  simp only [List.take_succ_cons, List.take_zero, List.drop_succ_cons, List.drop_zero]
  repeat still_step
  refine wpStill_nil ?_
  obtain ⟨z, hz, hM⟩ := HJ8.out.vj.be.mw
  have HM := Aside0.mk (And.intro hz hM)
  clear hz hM
  refine wpl_drop Bk.int_inj rfl _ _ 87 rfl HM.out.2 law3 Try.underlying87 (y := e.wk) (keyOf_int_mk Try.underlying3 HWK.out) rfl rfl ?_
  intro w9 hm9 hg9
  rw [wV_del] at hm9
  have HI := Aside0.mk (And.intro (HJ8.out.vj.be.put hm9 (n' := n + 1) (by have := HM.out.1; split <;> omega) (by omega) hg9) (HJ8.out.vj.fr.trans (grown_fr hg9 g m)))
  clear hm9 hg9
  go_wp2
  go_ret
  exact VPost.of HF.out rfl HI.out.1 HI.out.2
 ·obtain ⟨hk, ho, h6, hp, hc⟩ := hz
  have HF := Aside0.mk (show hearV c b e = ({ b with wks := updW b.wks e.wk none }, 0) by have hr := HR.out; have hnw := HNW.out; have hs := HS.out; unfold hearV; rw [if_neg (fun q => by rcases q with q | q; (rw [hr] at q; cases q); omega)]; rw [if_neg (by omega), hs]; simp only; rw [if_neg (by omega), if_neg (by omega), if_neg (by omega), if_neg (by omega), if_neg (fun q => q.2.elim (fun z => by rw [hp] at z; cases z) (fun z => z hc))])
  have k1 : (e.k == 1) = false := beq_eq_false_iff_ne.2 (by omega)
  have k2 : (e.k == 2) = false := beq_eq_false_iff_ne.2 (by omega)
  have k3 : (e.k == 3) = false := beq_eq_false_iff_ne.2 (by omega)
  have k4 : (e.k == 4) = false := beq_eq_false_iff_ne.2 (by omega)
  have f0 : (k.e.op != e.op) = false := bne_eq_false_iff_eq.2 (ho)
  have f6 : (e.op != 6) = true := bne_iff_ne.2 (h6)
  have p0 := hp
  have f7 : (k.cd != e.er) = false := bne_eq_false_iff_eq.2 (hc)
  clear hk ho h6 hp hc
  go_upto_region 22 with (fail)
  refine gen_world' (fun W => Wj w W B q g m wm n c b e w.heap.size k wb) (by exact HJ6.out) fun w7 Hw7 => ?_
  have HJw7 := Aside0.mk Hw7
  clear Hw7
  clear hcb hce hcw hlb hle hlw
  have hcb := fun i => HJw7.out.vj.be.cell i
  have hce := fun i => blk_cell HJw7.out.vj.eb_ i
  have hcw := fun i => blk_cell HJw7.out.wb_ i
  have hlb := HJw7.out.vj.be.lt
  have hle := blk_lt HJw7.out.vj.eb_
  have hlw := blk_lt HJw7.out.wb_
  refine still_tail_at' 6 (by kernel_rfl) (by kernel_rfl) fun w8 hw8 => ?_
  have HJ8 := Aside0.mk (show Wj w w8 B q g m wm n c b e w.heap.size k wb by rw [hw8]; exact HJw7.out.drew)
  clear hw8
  clear hcb hce hcw hlb hle hlw
  have hcb := fun i => HJ8.out.vj.be.cell i
  have hce := fun i => blk_cell HJ8.out.vj.eb_ i
  have hcw := fun i => blk_cell HJ8.out.wb_ i
  have hlb := HJ8.out.vj.be.lt
  have hle := blk_lt HJ8.out.vj.eb_
  have hlw := blk_lt HJ8.out.wb_
  simp only [List.take_succ_cons, List.take_zero, List.drop_succ_cons, List.drop_zero]
  repeat still_step
  refine wpStill_nil ?_
  obtain ⟨z, hz, hM⟩ := HJ8.out.vj.be.mw
  have HM := Aside0.mk (And.intro hz hM)
  clear hz hM
  refine wpl_drop Bk.int_inj rfl _ _ 87 rfl HM.out.2 law3 Try.underlying87 (y := e.wk) (keyOf_int_mk Try.underlying3 HWK.out) rfl rfl ?_
  intro w9 hm9 hg9
  rw [wV_del] at hm9
  have HI := Aside0.mk (And.intro (HJ8.out.vj.be.put hm9 (n' := n + 1) (by have := HM.out.1; split <;> omega) (by omega) hg9) (HJ8.out.vj.fr.trans (grown_fr hg9 g m)))
  clear hm9 hg9
  go_wp2
  go_ret
  exact VPost.of HF.out rfl HI.out.1 HI.out.2
theorem vhear_any {w : World} {B q g m wm n : Nat} {c : Cf} {b : Vb} (e : Ev7) (hx : (Lit.int .i64 e.cn).wf = true) (hwk : (Lit.int .i64 e.wk).wf = true) (hn : n + 1 ≤ 1000000) (h : VbIs w B q g m wm n c b) :
  Calls Try.prog 51 #[pA q, .agg e.cells] w (VPost w B q g m wm n c (hearV c b e)) := by
 cases hr : rightV e with
 | false => exact vhear_wrong e hx hwk hn h hr
 | true =>
  by_cases hnw : c.c0 ≤ e.wk
  ·exact vhear_worker e hx hwk hn h hr hnw
  have hk := right_k hr
  cases hs : b.wks e.wk with
  | none => exact vhear_idle e hx hwk hn h hr hnw hs (by omega)
  | some k =>
   by_cases k124 : e.k = 1 ∨ e.k = 2 ∨ e.k = 4
   ·exact vhear_busy_a e hx hwk hn h hr hnw hs (by omega)
   ·refine vhear_busy_b e hx hwk hn h hr hnw hs ?_
    have hp : k.pt = true ∨ k.pt = false := by cases k.pt <;> simp
    by_cases ho : k.e.op = e.op
    ·by_cases k3 : e.k = 3
     ·exact .inr (.inl ⟨k3, ho⟩)
     have k5 : e.k = 5 := by omega
     by_cases h6 : e.op = 6
     ·exact .inr (.inr (.inr (.inr (.inl ⟨k5, ho, h6⟩))))
     rcases hp with hp | hp
     ·by_cases hc : k.cd = e.er
      ·exact .inr (.inr (.inr (.inr (.inr ⟨k5, ho, h6, hp, hc⟩))))
      ·exact .inr (.inr (.inr (.inl ⟨k5, ho, h6, hp, hc⟩)))
     ·exact .inr (.inr (.inl ⟨k5, ho, h6, hp⟩))
    ·exact .inl ⟨by omega, ho⟩
end Go.Proofs.Ythljanmfanppdaa.Vd
end
section
namespace Go.Proofs.Ythljanmfanppdaa.Vd
open Go.RowKit Go.Maps Go.Proofs.YthljanmfanppdaaW.PrintWords Go.Proofs.YthljanmfanppdaaW.PrintLast Go.Proofs.YthljanmfanppdaaW.PrintMore Go.Proofs.Ythljanmfanppdaa.Mp Go.Proofs.Ythljanmfanppdaa.Bk
set_option linter.unusedVariables false
set_option linter.unusedSimpArgs false
def EvIn (w : World) (A : Option Addr) (i : Nat) (e : Ev7) : Prop := ∃ ad, A = some ad ∧ w.cell? (ad.add (i * 7)) = some (.int .i64 e.k) ∧ w.cell? ⟨(ad.add (i * 7)).block, (ad.add (i * 7)).off + 1, none⟩ = some (.int .i64 e.wk) ∧ w.cell? ⟨(ad.add (i * 7)).block, (ad.add (i * 7)).off + 2, none⟩ = some (.int .i64 e.op) ∧ w.cell? ⟨(ad.add (i * 7)).block, (ad.add (i * 7)).off + 3, none⟩ = some (.int .i64 e.cn) ∧ w.cell? ⟨(ad.add (i * 7)).block, (ad.add (i * 7)).off + 4, none⟩ = some (.int .i64 e.t) ∧ w.cell? ⟨(ad.add (i * 7)).block, (ad.add (i * 7)).off + 5, none⟩ = some (.int .i64 e.dr) ∧ w.cell? ⟨(ad.add (i * 7)).block, (ad.add (i * 7)).off + 6, none⟩ = some (.int .i64 e.er)
theorem EvIn.below {w w1 : World} {A : Option Addr} {i : Nat} {e : Ev7} (h : EvIn w A i e) (hb : Below w.heap.size w w1) : EvIn w1 A i e := by
 obtain ⟨ad, h0, h1, h2, h3, h4, h5, h6, h7⟩ := h
 exact ⟨ad, h0, (pw_cell_below hb h1), (pw_cell_below hb h2), (pw_cell_below hb h3), (pw_cell_below hb h4), (pw_cell_below hb h5), (pw_cell_below hb h6), (pw_cell_below hb h7)⟩
def wf7 (e : Ev7) : Prop := (Lit.int .i64 e.cn).wf = true ∧ (Lit.int .i64 e.wk).wf = true
theorem VbIs.base {w : World} {B B' q g m wm n : Nat} {c : Cf} {b : Vb} (h : VbIs w B' q g m wm n c b) (hB : B ≤ B') : VbIs w B q g m wm n c b :=
 ⟨h.blk, h.book, h.mw, Nat.le_trans hB h.hq, Nat.le_trans hB h.hg, Nat.le_trans hB h.hm, Nat.le_trans hB h.hw, h.mne⟩
structure Lj (w W : World) (q g m wm k : Nat) (c : Cf) (b : Vb) : Prop where
 be : VbIs W w.heap.size q g m wm k c b
 bel : Below w.heap.size w W
section
variable {w W W1 : World} {q g m wm k : Nat} {c : Cf} {b : Vb}
theorem Lj.step (h : Lj w W q g m wm k c b) (hb : Below W.heap.size W W1) : Lj w W1 q g m wm k c b := ⟨h.be.below hb, below_step h.bel hb⟩
theorem Lj.alloc (h : Lj w W q g m wm k c b) (o : Obj) : Lj w (W.alloc o) q g m wm k c b := h.step (below_alloc (Below.refl _ _) o)
theorem Lj.hear (h : Lj w W q g m wm k c b) (e : Ev7) (he : wf7 e) (hk : k + 1 ≤ 1000000) : Calls Try.prog 51 #[pA q, .agg e.cells] W fun r W' => r = .returned (.int .i64 (hearV c b e).2) ∧ Lj w W' q g m wm (k + 1) c (hearV c b e).1 :=
 (vhear_any e he.1 he.2 hk h.be).mono fun r W' ⟨h1, h2, h3⟩ => ⟨h1, h2, h.bel.trans (h.be.fr h.bel.size h3)⟩
end
set_option maxHeartbeats 4000000 in
set_option maxRecDepth 100000 in
theorem vjudge_no (A1 : Option Addr) (n1 c1 : Nat) (c : Cf) (hb : cfCode c ≠ 0) (l : List Ev7) (w : World) : Calls Try.prog 46 #[.slice A1 n1 c1, .agg c.cells] w fun r w' => r = .returned (.tuple #[.int .i64 (judgeV c l).1, .int .i64 (judgeV c l).2]) ∧ Below w.heap.size w w' := by
 have HJ := Aside0.mk (show judgeV c l = (-1, cfCode c) by unfold judgeV; rw [if_pos hb])
 have hu := Try.underlying36
 have CN := Aside0.mk (fun W => vnew_any c W)
 obtain ⟨code, hcode⟩ : ∃ code, cfCode c = code := ⟨_, rfl⟩
 rw [hcode] at CN HJ hb
 have h2 : (code != 0) = true := bne_iff_ne.2 hb
 have H0 := Aside0.mk hb
 have HB := Aside0.mk (below_alloc (Below.refl w.heap.size w) (.cells c.cells 36))
 clear hcode hb
 go_enter Try.func46, Try.ntmps46
 go_wp2_with (go_at_call 50; (with_reducible refine (CN.out _).mono ?_); rintro r w1 (⟨_, rfl, hb⟩ | ⟨h0, _⟩); rotate_left; (exact absurd h0 H0.out); have n0 := Aside0.mk (below_step HB.out hb); clear hb)
 go_ret2
 exact ⟨by rw [HJ.out]; rfl, n0.out⟩
set_option maxHeartbeats 4000000 in
set_option maxRecDepth 100000 in
theorem vjudge_yes (A1 : Option Addr) (c1 : Nat) (c : Cf) (hc0 : cfCode c = 0) (l : List Ev7) (hn : l.length ≤ 200000) (w : World) (hin : ∀ (i : Nat) e, l[i]? = some e → EvIn w A1 i e) (hwf : ∀ e ∈ l, wf7 e) :
  Calls Try.prog 46 #[.slice A1 l.length c1, .agg c.cells] w fun r w' => r = .returned (.tuple #[.int .i64 (judgeV c l).1, .int .i64 (judgeV c l).2]) ∧ Below w.heap.size w w' := by
 have hu2 := Try.underlying60
 have hu := Try.underlying36
 have HIN := Aside0.mk hin
 have HWF := Aside0.mk hwf
 have HN := Aside0.mk hn
 have HC0 := Aside0.mk hc0
 have CN := Aside0.mk (fun W => vnew_any c W)
 rw [hc0] at CN
 have HB := Aside0.mk (below_alloc (Below.refl w.heap.size w) (.cells c.cells 36))
 clear hin hwf hn hc0
 go_enter Try.func46, Try.ntmps46
 go_wp2_with (go_at_call 50; (with_reducible refine (CN.out _).mono ?_); rintro r w2 (⟨h0, _⟩ | ⟨_, q, g, m, wm, rfl, hbe, hb⟩); (exact absurd rfl h0); have HJ0 := Aside0.mk (show Lj w w2 q g m wm 0 c vb0 from ⟨hbe.base HB.out.size, below_step HB.out hb⟩); clear hbe hb)
 go_loopw [21] (fun i wr => ∃ k : Nat, k ≤ l.length ∧ i = .int .i64 k ∧ Aside0 (Lj w wr q g m wm k c (benchV c vb0 (l.take k)) ∧ goV c vb0 (l.take k) = none)) (fun i _ => l.length - (intOf i).toNat)
 case atStart => exact ⟨0, by omega, rfl, ⟨HJ0.out, rfl⟩⟩
 case round =>
  clear HJ0
  obtain ⟨k, hk, rfl, HI⟩ := hrel
  rcases Nat.lt_or_ge k l.length with hlt | hge
  ·have p0 : (0 : Int) ≤ (k : Int) := by omega
   have q0 : (k : Int) < (l.length : Int) := by omega
   obtain ⟨e, he⟩ : ∃ e, l[k]? = some e := ⟨_, List.getElem?_eq_getElem hlt⟩
   have HE := Aside0.mk he
   have HW := Aside0.mk (HWF.out e (List.mem_of_getElem? he))
   obtain ⟨ad, rfl, c0, c1', c2, c3, c4, c5, c6⟩ := (HIN.out k e he).below HI.out.1.bel
   have hnn : wrap64 ((k : Int) + 1) = ((k + 1 : Nat) : Int) := by have := HN.out; unfold wrap64; omega
   have HCC : Aside0 (∀ W, Lj w W q g m wm k c (benchV c vb0 (l.take k)) → Calls Try.prog 51 #[pA q, .agg e.cells] W fun r W' => r = .returned (.int .i64 (hearV c (benchV c vb0 (l.take k)) e).2) ∧ Lj w W' q g m wm (k + 1) c (hearV c (benchV c vb0 (l.take k)) e).1) := ⟨fun W hW => hW.hear e HW.out (by have := HN.out; omega)⟩
   have HX := Aside0.mk (HI.out.1.alloc (.cells e.cells 60))
   obtain ⟨cd, hcc⟩ : ∃ cd, (hearV c (benchV c vb0 (l.take k)) e).2 = cd := ⟨_, rfl⟩
   have HS1 := Aside0.mk (show goV c vb0 (l.take (k + 1)) = if cd = 0 then none else some (k, cd) by obtain ⟨h1, h2⟩ := List.getElem?_eq_some_iff.1 HE.out; rw [List.take_succ_eq_append_getElem h1, h2, goV_snoc _ _ _ _ HI.out.2, hcc, List.length_take, Nat.min_eq_left (by omega)])
   have HS2 := Aside0.mk (show benchV c vb0 (l.take (k + 1)) = (hearV c (benchV c vb0 (l.take k)) e).1 by obtain ⟨h1, h2⟩ := List.getElem?_eq_some_iff.1 HE.out; rw [List.take_succ_eq_append_getElem h1, h2, benchV_snoc])
   rw [hcc] at HCC
   clear hcc
   replace q0 := eq_true q0
   replace p0 := eq_true p0
   clear he
   by_cases h0 : cd = 0
   ·subst h0
    go_wp2_with (go_at_call 51; (with_reducible refine (HCC.out _ HX.out).mono ?_); rintro r w2 ⟨rfl, hj⟩; have HJ2 := Aside0.mk hj; clear hj)
    go_roundw
    case rel => exact ⟨k + 1, by omega, by first | rw [hnn] | simp, ⟨by rw [HS2.out]; exact HJ2.out, by rw [HS1.out]; rfl⟩⟩
    case measure => first | (rw [hnn]; simp [intOf]; omega) | (simp [intOf]; omega)
   ·have g0 : (cd != 0) = true := bne_iff_ne.2 (h0)
    have HR := Aside0.mk (show judgeV c l = ((k : Int), cd) by unfold judgeV; rw [if_neg (fun q => q HC0.out)]; have := goV_app (l' := l.drop (k + 1)) (HS1.out.trans (if_neg h0)); rw [List.take_append_drop] at this; rw [this]; rfl)
    clear h0
    go_wp2_with (go_at_call 51; (with_reducible refine (HCC.out _ HX.out).mono ?_); rintro r w2 ⟨rfl, hj⟩; have HJ2 := Aside0.mk hj; clear hj)
    go_ret2
    exact ⟨by rw [HR.out]; rfl, HJ2.out.bel⟩
  ·have q0 : ((k : Int) < (l.length : Int)) = False := eq_false (by omega)
   have HR := Aside0.mk (show judgeV c l = (-1, 0) by unfold judgeV; rw [if_neg (fun q => q HC0.out)]; have := HI.out.2; rw [List.take_of_length_le (by omega)] at this; rw [this]; rfl)
   clear hk hge
   go_wp2
   go_ret2
   exact ⟨by rw [HR.out]; rfl, HI.out.1.bel⟩
theorem vjudge_any (A1 : Option Addr) (c1 : Nat) (c : Cf) (l : List Ev7) (hn : l.length ≤ 200000) (w : World) (hin : ∀ (i : Nat) e, l[i]? = some e → EvIn w A1 i e) (hwf : ∀ e ∈ l, wf7 e) :
  Calls Try.prog 46 #[.slice A1 l.length c1, .agg c.cells] w fun r w' => r = .returned (.tuple #[.int .i64 (judgeV c l).1, .int .i64 (judgeV c l).2]) ∧ Below w.heap.size w w' := by
 by_cases hb : cfCode c = 0
 ·exact vjudge_yes A1 c1 c hb l hn w hin hwf
 ·exact vjudge_no A1 l.length c1 c hb l w
end Go.Proofs.Ythljanmfanppdaa.Vd
end
section
namespace Go.Proofs.Ythljanmfanppdaa.Vd
open Go.RowKit Go.Maps Go.Proofs.YthljanmfanppdaaW.PrintWords Go.Proofs.YthljanmfanppdaaW.PrintLast Go.Proofs.YthljanmfanppdaaW.PrintMore Go.Proofs.Ythljanmfanppdaa.Mp Go.Proofs.Ythljanmfanppdaa.Bk
set_option linter.unusedVariables false
set_option linter.unusedSimpArgs false
section
variable {α : Type} {W : World} {B T k : Nat} {A : α → Array Value} {v : Value} {l : List α} {o : Oper} {a : Act} {K : Act → World → Prop} {Q : Exit → Act → World → Prop} {ops : Array Oper} {rest : List Oper}
theorem RowIs.append_wp (S : Nat) (bytes : Nat) (z : Value) (p q : Operand) (hS : Try.prog.underlying S = some (.slice T)) (hinfo : (Try.prog.info? T).map (fun i => (i.zero, i.size, i.bytes)) = some (some z, k, bytes)) (hz : z.cells.size = k) (hk : 0 < k)
  (ho : o.op = .call { callee := .builtin .append, args := #[p, q], argTypes := #[S, S] }) (h : RowIs W B T k A v l) (x : α) (hx : (A x).size = k) (h1 : ∀ u ∈ (A x).toList, u.oneCell' = true) (hp : a.eval p = v) (hq : a.eval q = .slice (some ⟨W.heap.size, 0, none⟩) 1 1)
  (hl : l.length ≤ 1000000) (hb : bytes ≤ 1000) (hB : B ≤ W.heap.size)
  (hK : ∀ g cap w6, RowIs w6 B T k A (.slice (some ⟨g, 0, none⟩) (l.length + 1) cap) (l ++ [x]) → (W.alloc (.cells (A x) T)).grownBy w6 v.ownBlock → (v.ownBlock = some g ∨ g = W.heap.size + 1) → K (a.put o.dst (.slice (some ⟨g, 0, none⟩) (l.length + 1) cap)) w6) :
  o.wp Try.prog a (W.alloc (.cells (A x) T)) K Q := by
 obtain ⟨i0, hi0, hz0, hz1, hz2⟩ := info_parts hinfo
 have hr : (W.alloc (.cells (A x) T)).ownsRow B T k v l.length (l.flatMap fun x => (A x).toList) := pw_own_below h (below_alloc (Below.refl _ _) _)
 have hbb : (l.length + 1) * bytes ≤ 1000001 * 1000 := Nat.mul_le_mul (by omega) hb
 refine wp_append_lies _ p q _ ho B T i0 z k bytes hS hi0 hz0 hz1 hz2 hz hk v l.length _ hp hr ⟨W.heap.size, 0, none⟩ 1 1 (A x).toList hq (by simp [hx]) (World.news_of_block (cs := A x) (t := T) (fr := (0, 0)) (heap_alloc_new W _)) h1 (by omega) (by unfold maxLen; omega) (by omega) (by simp; omega) (W.heap.size + 1) (by simp) ?_
 intro g cap w6 hown hgrow hat hlt
 refine hK g cap w6 ?_ hgrow hat
 unfold RowIs
 rw [List.length_append, List.flatMap_append]
 simpa using hown
theorem RowIs.append_wpl (hgd : o.guard = none) (S : Nat) (bytes : Nat) (z : Value) (p q : Operand) (hS : Try.prog.underlying S = some (.slice T)) (hinfo : (Try.prog.info? T).map (fun i => (i.zero, i.size, i.bytes)) = some (some z, k, bytes)) (hz : z.cells.size = k) (hk : 0 < k)
  (ho : o.op = .call { callee := .builtin .append, args := #[p, q], argTypes := #[S, S] }) (h : RowIs W B T k A v l) (x : α) (hx : (A x).size = k) (h1 : ∀ u ∈ (A x).toList, u.oneCell' = true) (hp : a.eval p = v) (hq : a.eval q = .slice (some ⟨W.heap.size, 0, none⟩) 1 1)
  (hl : l.length ≤ 1000000) (hb : bytes ≤ 1000) (hB : B ≤ W.heap.size)
  (hK : ∀ g cap w6, RowIs w6 B T k A (.slice (some ⟨g, 0, none⟩) (l.length + 1) cap) (l ++ [x]) → (W.alloc (.cells (A x) T)).grownBy w6 v.ownBlock → (v.ownBlock = some g ∨ g = W.heap.size + 1) → wpList Try.prog ops Q rest (a.put o.dst (.slice (some ⟨g, 0, none⟩) (l.length + 1) cap)) w6) :
  wpList Try.prog ops Q (o :: rest) a (W.alloc (.cells (A x) T)) :=
 wpList_plain hgd fun _ hK' => RowIs.append_wp S bytes z p q hS hinfo hz hk ho h x hx h1 hp hq hl hb hB fun g cap w6 h2 h3 h4 => hK' _ _ (hK g cap w6 h2 h3 h4)
theorem RowIs.low (h : RowIs W B T k A v l) {g : Nat} (hg : v.ownBlock = some g) : B ≤ g ∧ g < W.heap.size := by
 rcases h.2 with ⟨rfl, _⟩ | ⟨g', cap, cur, rfl, hB, hb, _⟩
 ·cases hg
 ·obtain rfl : g' = g := by simpa [Value.ownBlock] using hg
  exact ⟨hB, blk_lt hb⟩
end
abbrev adA (a : Ad) : Array Value := #[.int .i64 a.beg, .int .i64 a.clk, .bool a.thr]
def iV (f : Int → Option Int) : Int → Option Value := fun x => (f x).map (Value.int .i64)
def aV (f : Int → List Ad) (sl : Int → Value) : Int → Option Value := fun x => if f x = [] then none else some (sl x)
theorem zeroI (w : World) : (zeroValue 3).run Try.prog w = .ok (.int .i64 0) w := by kernel_rfl
theorem zeroA (w : World) : (zeroValue 140).run Try.prog w = .ok (.slice none 0 0) w := by kernel_rfl
theorem ad_info : (Try.prog.info? 142).map (fun i => (i.zero, i.size, i.bytes)) = some (some (.agg #[.int .i64 0, .int .i64 0, .bool false]), 3, 24) := by kernel_rfl
structure SvX (w : World) (B ma ms n : Nat) (adv : Int → List Ad) (snc : Int → Option Int) (sl : Int → Value) : Prop where
 ma_ : ∃ z, z ≤ n ∧ MapIs (Value.int .i64) Try.prog 3 w ma z (aV adv sl)
 ms_ : ∃ z, z ≤ n ∧ MapIs (Value.int .i64) Try.prog 3 w ms z (iV snc)
 row : ∀ x, RowIs w B 142 3 adA (sl x) (adv x)
 own : ∀ x y g, (sl x).ownBlock = some g → (sl y).ownBlock = some g → x = y
 len : ∀ x, (adv x).length ≤ n
 nil_ : ∀ x, adv x = [] → sl x = .slice none 0 0
 d1 : ma ≠ ms
 ha : B ≤ ma
 hs : B ≤ ms
section
variable {w w1 : World} {B ma ms mm n n' : Nat} {adv : Int → List Ad} {snc : Int → Option Int} {sl : Int → Value}
theorem SvX.move (h : SvX w B ma ms n adv snc sl) (hb : ∀ k, k < w.heap.size → (k = ma ∨ k = ms ∨ ∃ cs, w.heap[k]? = some (.cells cs 142 (0, 0))) → w1.heap[k]? = w.heap[k]?) : SvX w1 B ma ms n adv snc sl := by
 obtain ⟨z1, hz1, h1⟩ := h.ma_
 obtain ⟨z2, hz2, h2⟩ := h.ms_
 refine ⟨⟨z1, hz1, h1.move (hb ma h1.lt (.inl rfl))⟩, ⟨z2, hz2, h2.move (hb ms h2.lt (.inr (.inl rfl)))⟩, fun x => ?_, h.own, h.len, h.nil_, h.d1, h.ha, h.hs⟩
 have r := h.row x
 refine ⟨r.1, ?_⟩
 rcases r.2 with hn | ⟨g, cap, cur, e, hbase, hg, rest⟩
 ·exact .inl hn
 ·exact .inr ⟨g, cap, cur, e, hbase, (hb g (blk_lt hg) (.inr (.inr ⟨_, hg⟩))).trans hg, rest⟩
theorem SvX.below (h : SvX w B ma ms n adv snc sl) (hb : Below w.heap.size w w1) : SvX w1 B ma ms n adv snc sl := h.move fun k hk _ => hb.block k hk
theorem SvX.up (h : SvX w B ma ms n adv snc sl) (hn : n ≤ n') : SvX w B ma ms n' adv snc sl := by
 obtain ⟨z1, hz1, h1⟩ := h.ma_
 obtain ⟨z2, hz2, h2⟩ := h.ms_
 exact ⟨⟨z1, by omega, h1⟩, ⟨z2, by omega, h2⟩, h.row, h.own, fun x => Nat.le_trans (h.len x) hn, h.nil_, h.d1, h.ha, h.hs⟩
theorem SvX.lookA (h : SvX w B ma ms n adv snc sl) {x : Int} (hx : (Lit.int .i64 x).wf = true) : (Instr.lookup 114 (.map (some ma)) (.int .i64 x) false).run Try.prog w = .ok (sl x) w := by
 obtain ⟨z, hz, hM⟩ := h.ma_
 rw [hM.look law3 Try.underlying114 (zeroA w) (x := x) (keyOf_int_mk Try.underlying3 hx)]
 unfold aV
 by_cases e : adv x = []
 ·rw [if_pos e, h.nil_ x e]; rfl
 ·rw [if_neg e]; rfl
theorem map_lookI {m z : Nat} {f : Int → Option Int} (hM : MapIs (Value.int .i64) Try.prog 3 w m z (iV f)) {x : Int} (hx : (Lit.int .i64 x).wf = true) : (Instr.lookup 115 (.map (some m)) (.int .i64 x) false).run Try.prog w = .ok (.int .i64 ((f x).getD 0)) w := by
 rw [hM.look law3 Try.underlying115 (zeroI w) (x := x) (keyOf_int_mk Try.underlying3 hx)]
 unfold iV
 cases f x <;> rfl
theorem map_lookI2 {m z : Nat} {f : Int → Option Int} (hM : MapIs (Value.int .i64) Try.prog 3 w m z (iV f)) {x : Int} (hx : (Lit.int .i64 x).wf = true) : (Instr.lookup 115 (.map (some m)) (.int .i64 x) true).run Try.prog w = .ok (.tuple #[.int .i64 ((f x).getD 0), .bool (f x).isSome]) w := by
 rw [hM.look_ok law3 Try.underlying115 (zeroI w) (x := x) (keyOf_int_mk Try.underlying3 hx)]
 unfold iV
 cases f x <;> rfl
theorem SvX.lookS (h : SvX w B ma ms n adv snc sl) {x : Int} (hx : (Lit.int .i64 x).wf = true) : (Instr.lookup 115 (.map (some ms)) (.int .i64 x) false).run Try.prog w = .ok (.int .i64 ((snc x).getD 0)) w := by
 obtain ⟨z, hz, hM⟩ := h.ms_
 exact map_lookI hM hx
theorem SvX.lookS2 (h : SvX w B ma ms n adv snc sl) {x : Int} (hx : (Lit.int .i64 x).wf = true) : (Instr.lookup 115 (.map (some ms)) (.int .i64 x) true).run Try.prog w = .ok (.tuple #[.int .i64 ((snc x).getD 0), .bool (snc x).isSome]) w := by
 obtain ⟨z, hz, hM⟩ := h.ms_
 exact map_lookI2 hM hx
theorem iV_upd (f : Int → Option Int) (x v : Int) : (fun l => if l = x then some (Value.int .i64 v) else iV f l) = iV (updI f x v) := by
 funext l
 unfold iV updI
 by_cases e : l = x <;> simp [e]
theorem iV_del (f : Int → Option Int) (x : Int) : (fun l => if l = x then none else iV f l) = iV (delI f x) := by
 funext l
 unfold iV delI
 by_cases e : l = x <;> simp [e]
theorem SvX.mapS (h : SvX w B ma ms n adv snc sl) : ∃ es cl, w.heap[ms]? = some (.map es cl) := by obtain ⟨z, hz, hM⟩ := h.ms_; exact hM.block
theorem SvX.mapA (h : SvX w B ma ms n adv snc sl) : ∃ es cl, w.heap[ma]? = some (.map es cl) := by obtain ⟨z, hz, hM⟩ := h.ma_; exact hM.block
theorem SvX.other (h : SvX w B ma ms n adv snc sl) {m : Nat} (hm : ∃ es cl, w.heap[m]? = some (.map es cl)) (h1 : ma ≠ m) (h2 : ms ≠ m) (hg : w.grownBy w1 (some m)) : SvX w1 B ma ms n adv snc sl := by
 obtain ⟨_, _, hm⟩ := hm
 refine h.move fun k hk hc => hg.block k hk fun e => ?_
 have e := Option.some.inj e
 rcases hc with rfl | rfl | ⟨cs, hc⟩
 ·exact h1 e
 ·exact h2 e
 ·exact map_ne hc hm e
theorem SvX.putS (h : SvX w B ma ms n adv snc sl) {f : Int → Option Int} {z' : Nat} (hm : MapIs (Value.int .i64) Try.prog 3 w1 ms z' (iV f)) (hz : z' ≤ n') (hn : n ≤ n') (hg : w.grownBy w1 (some ms)) : SvX w1 B ma ms n' adv f sl := by
 obtain ⟨z1, hz1, h1⟩ := h.ma_
 obtain ⟨_, _, hS⟩ := h.mapS
 refine ⟨⟨z1, by omega, h1.move (hg.block ma h1.lt (fun e => h.d1 (Option.some.inj e)))⟩, ⟨z', hz, hm⟩, fun x => ?_, h.own, fun x => Nat.le_trans (h.len x) hn, h.nil_, h.d1, h.ha, h.hs⟩
 refine (h.row x).kept hg ?_
 cases hv : (sl x).ownBlock with
 | none => exact .inl rfl
 | some g => exact .inr (fun q => by obtain ⟨cur, hc⟩ := (h.row x).own hv; exact map_ne hc hS (Option.some.inj q))
def updS (f : Int → Value) (x : Int) (v : Value) : Int → Value := fun l => if l = x then v else f l
theorem SvX.app {x : Int} {a : Ad} {g cap : Nat} {w6 : World} (h : SvX w B ma ms n adv snc sl) (hB : B ≤ w.heap.size) (hown : RowIs w6 B 142 3 adA (.slice (some ⟨g, 0, none⟩) ((adv x).length + 1) cap) (adv x ++ [a])) (hg : (w.alloc (.cells (adA a) 142)).grownBy w6 (sl x).ownBlock) (hat : (sl x).ownBlock = some g ∨ g = w.heap.size + 1) :
  ∃ z, z ≤ n ∧ MapIs (Value.int .i64) Try.prog 3 w6 ma z (aV adv sl) ∧ ∀ w7, MapIs (Value.int .i64) Try.prog 3 w7 ma (if (aV adv sl x).isSome then z else z + 1) (fun l => if l = x then some (.slice (some ⟨g, 0, none⟩) ((adv x).length + 1) cap) else aV adv sl l) → w6.grownBy w7 (some ma) →
   SvX w7 B ma ms (n + 1) (updA adv x (adv x ++ [a])) snc (updS sl x (.slice (some ⟨g, 0, none⟩) ((adv x).length + 1) cap)) := by
 have h' := h.below (below_alloc (Below.refl _ _) (.cells (adA a) 142))
 obtain ⟨_, _, hA⟩ := h'.mapA
 obtain ⟨_, _, hS⟩ := h'.mapS
 have ne : ∀ k es cl, (w.alloc (.cells (adA a) 142)).heap[k]? = some (.map es cl) → some k ≠ (sl x).ownBlock := fun k es cl hk e => by
  obtain ⟨cur, hc⟩ := (h'.row x).own e.symm
  exact map_ne hc hk rfl
 obtain ⟨z1, hz1, h1⟩ := h'.ma_
 obtain ⟨z2, hz2, h2⟩ := h'.ms_
 have h16 := h1.move (hg.block ma h1.lt (ne _ _ _ hA))
 refine ⟨z1, hz1, h16, fun w7 hm7 hg7 => ?_⟩
 have hne : ma ≠ g := fun e => by
  rcases hat with q | q
  ·exact ne _ _ _ hA (by rw [e, q])
  ·have := h1.lt
   obtain ⟨z0, _, h0⟩ := h.ma_
   have := h0.lt
   omega
 have e : (fun l => if l = x then some (.slice (some ⟨g, 0, none⟩) ((adv x).length + 1) cap) else aV adv sl l) = aV (updA adv x (adv x ++ [a])) (updS sl x (.slice (some ⟨g, 0, none⟩) ((adv x).length + 1) cap)) := by
  funext l
  unfold aV updA updS
  by_cases q : l = x
  ·rw [if_pos q, if_pos q, if_pos q, if_neg (by simp)]
  ·rw [if_neg q, if_neg q, if_neg q]
 rw [e] at hm7
 refine ⟨⟨_, by split <;> omega, hm7⟩, ⟨z2, by omega, (h2.move (hg.block ms h2.lt (ne _ _ _ hS))).move (hg7.block ms ?_ (fun q => h.d1 (Option.some.inj q).symm))⟩, fun y => ?_, fun y y' g' hy hy' => ?_, fun y => ?_, fun y hy => ?_, h.d1, h.ha, h.hs⟩
 ·have := hg.size; have := h2.lt; omega
 ·show RowIs w7 B 142 3 adA (updS sl x _ y) (updA adv x _ y)
  unfold updS updA
  by_cases q : y = x
  ·rw [if_pos q, if_pos q]
   have hown' : RowIs w6 B 142 3 adA (.slice (some ⟨g, 0, none⟩) ((adv x).length + 1) cap) (adv x ++ [a]) := hown
   exact hown'.kept hg7 (.inr (fun q => by have : some g = some ma := q; exact hne (Option.some.inj this).symm))
  ·rw [if_neg q, if_neg q]
   have r6 : RowIs w6 B 142 3 adA (sl y) (adv y) := by
    refine (h'.row y).kept hg ?_
    cases hv : (sl y).ownBlock with
    | none => exact .inl rfl
    | some gy => exact .inr (fun e => q (h.own y x gy hv e.symm))
   refine r6.kept hg7 ?_
   cases hv : (sl y).ownBlock with
   | none => exact .inl rfl
   | some gy => exact .inr (fun e => by
     obtain ⟨cur, hc⟩ := (h'.row y).own hv
     exact map_ne hc hA (Option.some.inj e))
 ·have fresh : ∀ y g', y ≠ x → (sl y).ownBlock = some g' → g' ≠ g := fun y g' hyx hv e => by
   rcases hat with q | q
   ·exact hyx (h.own y x g (e ▸ hv) q)
   ·have := ((h.row y).low hv).2
    omega
  unfold updS at hy hy'
  by_cases q : y = x
  ·by_cases q' : y' = x
   ·rw [q, q']
   ·rw [if_pos q] at hy
    rw [if_neg q'] at hy'
    have : g = g' := by simpa [Value.ownBlock] using hy
    exact absurd this.symm (fresh y' g' q' hy')
  ·by_cases q' : y' = x
   ·rw [if_neg q] at hy
    rw [if_pos q'] at hy'
    have : g = g' := by simpa [Value.ownBlock] using hy'
    exact absurd this.symm (fresh y g' q hy)
   ·rw [if_neg q] at hy
    rw [if_neg q'] at hy'
    exact h.own y y' g' hy hy'
 ·unfold updA
  by_cases q : y = x
  ·rw [if_pos q, List.length_append]
   have := h.len x
   simp; omega
  ·rw [if_neg q]; have := h.len y; omega
 ·unfold updA at hy
  unfold updS
  by_cases q : y = x
  ·rw [if_pos q] at hy; simp at hy
  ·rw [if_neg q] at hy ⊢; exact h.nil_ y hy
theorem SvX.thr {x : Int} {g cap k : Nat} (h : SvX w B ma ms n adv snc sl) (hk : (adv x).length = k + 1) (hs : sl x = .slice (some ⟨g, 0, none⟩) (k + 1) cap) :
  SvX (w.setCell ⟨g, k * 3 + 2, none⟩ (.bool true)) B ma ms n (updA adv x (thrL (adv x))) snc sl := by
 have hr := h.row x
 rw [hs] at hr
 obtain ⟨cur, hg⟩ := hr.own (show (Value.slice (some ⟨g, 0, none⟩) (k + 1) cap).ownBlock = some g from rfl)
 have hown : (sl x).ownBlock = some g := by rw [hs]; rfl
 obtain ⟨_, _, hA⟩ := h.mapA
 obtain ⟨_, _, hS⟩ := h.mapS
 obtain ⟨z1, hz1, h1⟩ := h.ma_
 obtain ⟨z2, hz2, h2⟩ := h.ms_
 obtain ⟨a, ha⟩ : ∃ a, (adv x)[k]? = some a := ⟨_, List.getElem?_eq_getElem (by omega)⟩
 have ht : thrL (adv x) = (adv x).set k { a with thr := true } := by
  unfold thrL
  rw [show (adv x).length - 1 = k by omega, ha]
 have e : aV (updA adv x (thrL (adv x))) sl = aV adv sl := by
  funext l
  unfold aV updA
  by_cases q : l = x
  ·subst q
   rw [if_pos rfl]
   have n1 : ¬ adv l = [] := fun z => by rw [z] at hk; simp at hk
   have n2 : ¬ thrL (adv l) = [] := thrL_ne n1
   rw [if_neg n1, if_neg n2]
  ·rw [if_neg q]
 refine ⟨⟨z1, hz1, by rw [e]; exact h1.move (Below.heap_setCell _ _ _ _ (map_ne hg hA).symm)⟩, ⟨z2, hz2, h2.move (Below.heap_setCell _ _ _ _ (map_ne hg hS).symm)⟩, fun y => ?_, h.own, fun y => ?_, fun y hy => ?_, h.d1, h.ha, h.hs⟩
 ·show RowIs _ B 142 3 adA (sl y) (updA adv x _ y)
  unfold updA
  by_cases q : y = x
  ·rw [if_pos q, q, hs, ht]
   have hr' : RowIs w B 142 3 adA (.slice (some ⟨g, 0, none⟩) (adv x).length cap) (adv x) := by rw [hk]; exact hr
   have hp := hr'.put (fun _ => rfl) (i := k) (j := 2) (x' := { a with thr := true }) (u := .bool true) ha (by decide) rfl
   rw [List.length_set, hk] at hp
   exact hp
  ·rw [if_neg q]
   refine (h.row y).far (fun hv => q ?_) _
   exact h.own y x g hv hown
 ·unfold updA
  by_cases q : y = x
  ·rw [if_pos q, ht, List.length_set]; exact h.len x
  ·rw [if_neg q]; exact h.len y
 ·unfold updA at hy
  by_cases q : y = x
  ·rw [if_pos q] at hy
   exact absurd hy (thrL_ne (fun z => by rw [z] at hk; simp at hk))
  ·rw [if_neg q] at hy; exact h.nil_ y hy
end
structure SvIs (w : World) (B ma ms mm n : Nat) (s : Sv) (sl : Int → Value) : Prop where
 x : SvX w B ma ms n s.adv s.snc sl
 mm_ : ∃ z, z ≤ n ∧ MapIs (Value.int .i64) Try.prog 3 w mm z (iV s.mak)
 d2 : ma ≠ mm
 d3 : ms ≠ mm
 hm : B ≤ mm
abbrev svA (ma ms mm : Nat) : Array Value := #[.map (some ma), .map (some ms), .map (some mm)]
def spS (ms mm : Nat) : Nat → Prop := fun k => k = ms ∨ k = mm
section
variable {w w1 : World} {B ma ms mm n n' : Nat} {s : Sv} {sl : Int → Value}
theorem SvIs.below (h : SvIs w B ma ms mm n s sl) (hb : Below w.heap.size w w1) : SvIs w1 B ma ms mm n s sl := by
 obtain ⟨z, hz, hM⟩ := h.mm_
 exact ⟨h.x.below hb, ⟨z, hz, hM.move (hb.block mm hM.lt)⟩, h.d2, h.d3, h.hm⟩
theorem SvIs.alloc (h : SvIs w B ma ms mm n s sl) (o : Obj) : SvIs (w.alloc o) B ma ms mm n s sl := h.below (below_alloc (Below.refl _ _) o)
theorem SvIs.drew (h : SvIs w B ma ms mm n s sl) : SvIs w.drew B ma ms mm n s sl := by
 obtain ⟨z, hz, hM⟩ := h.mm_
 exact ⟨h.x.move (fun _ _ _ => rfl), ⟨z, hz, hM.move rfl⟩, h.d2, h.d3, h.hm⟩
theorem SvIs.up (h : SvIs w B ma ms mm n s sl) (hn : n ≤ n') : SvIs w B ma ms mm n' s sl := by
 obtain ⟨z, hz, hM⟩ := h.mm_
 exact ⟨h.x.up hn, ⟨z, by omega, hM⟩, h.d2, h.d3, h.hm⟩
theorem SvIs.lookM (h : SvIs w B ma ms mm n s sl) {x : Int} (hx : (Lit.int .i64 x).wf = true) : (Instr.lookup 115 (.map (some mm)) (.int .i64 x) false).run Try.prog w = .ok (.int .i64 ((s.mak x).getD 0)) w := by
 obtain ⟨z, hz, hM⟩ := h.mm_
 exact map_lookI hM hx
theorem SvIs.mapM (h : SvIs w B ma ms mm n s sl) : ∃ es cl, w.heap[mm]? = some (.map es cl) := by obtain ⟨z, hz, hM⟩ := h.mm_; exact hM.block
theorem SvIs.putS (h : SvIs w B ma ms mm n s sl) {f : Int → Option Int} {z' : Nat} (hm : MapIs (Value.int .i64) Try.prog 3 w1 ms z' (iV f)) (hz : z' ≤ n') (hn : n ≤ n') (hg : w.grownBy w1 (some ms)) : SvIs w1 B ma ms mm n' { s with snc := f } sl := by
 obtain ⟨z, hz2, hM⟩ := h.mm_
 exact ⟨h.x.putS hm hz hn hg, ⟨z, by omega, hM.move (hg.block mm hM.lt (fun e => h.d3 (Option.some.inj e).symm))⟩, h.d2, h.d3, h.hm⟩
theorem SvIs.putM (h : SvIs w B ma ms mm n s sl) {f : Int → Option Int} {z' : Nat} (hm : MapIs (Value.int .i64) Try.prog 3 w1 mm z' (iV f)) (hz : z' ≤ n') (hn : n ≤ n') (hg : w.grownBy w1 (some mm)) : SvIs w1 B ma ms mm n' { s with mak := f } sl :=
 ⟨(h.x.other h.mapM h.d2 h.d3 hg).up hn, ⟨z', hz, hm⟩, h.d2, h.d3, h.hm⟩
theorem SvIs.far (h : SvIs w B ma ms mm n s sl) {k : Nat} {cs : Array Value} {t : TypeId} (hk : w.heap[k]? = some (.cells cs t (0, 0))) : k ≠ ma ∧ k ≠ ms ∧ k ≠ mm := by
 obtain ⟨_, _, h1⟩ := h.x.mapA
 obtain ⟨_, _, h2⟩ := h.x.mapS
 obtain ⟨_, _, h3⟩ := h.mapM
 exact ⟨map_ne hk h1, map_ne hk h2, map_ne hk h3⟩
end
def FunD (D : DataW Value) (f : Int → Option Int) : Prop := ∀ x l, keyOf Try.prog 3 (.int .i64 x) = some l → (f x = none ∧ has D l = false) ∨ ∃ v, f x = some v ∧ has D l = true ∧ ∀ z, D.atKey l z = .held (.int .i64 v)
theorem own_size {w : World} {b n : Nat} {D : DataW Value} (h : w.ownsMap Try.prog 3 tokR b n D) : Maps.size D ≤ n := by
 obtain ⟨es, clock, hb, F, hn, rfl⟩ := h
 simp [Maps.size, length_sorted]
 exact hn
theorem map_of_own {w : World} {b n : Nat} {D : DataW Value} {f : Int → Option Int} (h : w.ownsMap Try.prog 3 tokR b n D) (hf : FunD D f) : MapIs (Value.int .i64) Try.prog 3 w b (Maps.size D) (iV f) := by
 refine ⟨D, owns_exact h, rfl, fun x l hk => ?_⟩
 unfold iV
 rcases hf x l hk with ⟨h1, h2⟩ | ⟨v, h1, h2, h3⟩
 ·exact .inl ⟨by rw [h1]; rfl, h2⟩
 ·exact .inr ⟨_, by rw [h1]; rfl, h2, h3⟩
theorem map_to_own {w : World} {b z : Nat} {f : Int → Option Int} (h : MapIs (Value.int .i64) Try.prog 3 w b z (iV f)) : ∃ D, w.ownsMap Try.prog 3 tokR b z D ∧ Maps.size D = z ∧ FunD D f := by
 obtain ⟨D, h1, h2, h3⟩ := h
 refine ⟨D, h1, h2, fun x l hk => ?_⟩
 rcases h3 x l hk with ⟨a1, a2⟩ | ⟨v, a1, a2, a3⟩
 ·unfold iV at a1
  exact .inl ⟨Option.map_eq_none_iff.1 a1, a2⟩
 ·unfold iV at a1
  obtain ⟨u, b1, rfl⟩ := Option.map_eq_some_iff.1 a1
  exact .inr ⟨u, b1, a2, a3⟩
def RngI (f0 : Int → Option Int) (v : Int) (D : DataW Value) (left : Lit → Bool) : Prop := ∃ f, FunD D f ∧ ∀ x l, keyOf Try.prog 3 (.int .i64 x) = some l → (left l = true → f x = f0 x) ∧ (left l = false → f x = dropI f0 v x)
theorem key_int {x : Int} {l : Lit} (h : keyOf Try.prog 3 (.int .i64 x) = some l) : l = .int .i64 x ∧ (Lit.int .i64 x).wf = true := by
 obtain ⟨y, h1, h2, h3⟩ := keyOf_int_inv Try.underlying3 h
 cases h1
 exact ⟨h2, h3⟩
theorem RngI.start {f0 : Int → Option Int} {v : Int} {D : DataW Value} (h : FunD D f0) : RngI f0 v D (has D) := by
 refine ⟨f0, h, fun x l hk => ⟨fun _ => rfl, fun q => ?_⟩⟩
 rcases h x l hk with ⟨h1, h2⟩ | ⟨u, h1, h2, h3⟩
 ·unfold dropI; rw [h1]; rfl
 ·rw [q] at h2; cases h2
theorem RngI.done {f0 : Int → Option Int} {v : Int} {D : DataW Value} {left : Lit → Bool} (h : RngI f0 v D left) (hl : ∀ l, left l = false) : FunD D (dropI f0 v) := by
 obtain ⟨f, h1, h2⟩ := h
 intro x l hk
 rw [← (h2 x l hk).2 (hl l)]
 exact h1 x l hk
theorem same_int (x y : Int) (hx : (Lit.int .i64 x).wf = true) (hy : (Lit.int .i64 y).wf = true) : (Lit.int .i64 y).sameKey (.int .i64 x) = decide (y = x) := by
 by_cases e : y = x
 ·subst e; simp [Lit.sameKey]
 ·rw [decide_eq_false e]
  simp [Lit.sameKey, e]
theorem held_inj {a b : Int} (h : (DataW.held (Value.int .i64 a) : DataW Value) = .held (.int .i64 b)) : a = b := by
 injection h with h
 injection h
theorem RngI.keep {f0 : Int → Option Int} {v x c : Int} {D : DataW Value} {left : Lit → Bool} (h : RngI f0 v D left) (hx : (Lit.int .i64 x).wf = true) (hl : left (.int .i64 x) = true) (h0 : f0 x = some c) (hc : c ≠ v) : RngI f0 v D (fun z => left z && !z.sameKey (.int .i64 x)) := by
 obtain ⟨f, h1, h2⟩ := h
 refine ⟨f, h1, fun y l hk => ?_⟩
 obtain ⟨rfl, hy⟩ := key_int hk
 simp only
 rw [same_int x y hx hy]
 by_cases e : y = x
 ·subst e
  rw [decide_eq_true rfl]
  refine ⟨fun q => by simp at q, fun _ => ?_⟩
  rw [(h2 y _ hk).1 hl]
  unfold dropI
  rw [h0, if_neg (fun q => hc (Option.some.inj q))]
 ·rw [decide_eq_false e]
  simpa using h2 y _ hk
theorem RngI.drop {f0 : Int → Option Int} {v x : Int} {D : DataW Value} {left : Lit → Bool} (h : RngI f0 v D left) (hx : (Lit.int .i64 x).wf = true) (h0 : f0 x = some v) : RngI f0 v (D.del (.int .i64 x)) (fun z => (left z && !z.sameKey (.int .i64 x)) && !z.sameKey (.int .i64 x)) := by
 obtain ⟨f, h1, h2⟩ := h
 refine ⟨delI f x, fun y l hk => ?_, fun y l hk => ?_⟩
 ·obtain ⟨rfl, hy⟩ := key_int hk
  unfold delI
  by_cases e : y = x
  ·subst e
   exact .inl ⟨if_pos rfl, has_del_same⟩
  ·rw [if_neg e]
   have hne : (Lit.int .i64 y) ≠ .int .i64 x := fun q => e (by injection q)
   rcases h1 y _ hk with ⟨a1, a2⟩ | ⟨u, a1, a2, a3⟩
   ·exact .inl ⟨a1, by rw [has_del_other hne]; exact a2⟩
   ·exact .inr ⟨u, a1, by rw [has_del_other hne]; exact a2, fun z => by rw [atKey_del_other hne]; exact a3 z⟩
 ·obtain ⟨rfl, hy⟩ := key_int hk
  simp only
  rw [same_int x y hx hy]
  unfold delI
  by_cases e : y = x
  ·subst e
   rw [decide_eq_true rfl, if_pos rfl]
   refine ⟨fun q => by simp at q, fun _ => ?_⟩
   unfold dropI
   rw [h0, if_pos rfl]
  ·rw [decide_eq_false e, if_neg e]
   simpa using h2 y _ hk
end Go.Proofs.Ythljanmfanppdaa.Vd
end
section
set_option maxHeartbeats 4000000
set_option maxRecDepth 100000
namespace Go.Proofs.Ythljanmfanppdaa.Vd
open Go.RowKit Go.Maps Go.Proofs.YthljanmfanppdaaW.PrintWords Go.Proofs.YthljanmfanppdaaW.PrintLast Go.Proofs.YthljanmfanppdaaW.PrintMore Go.Proofs.Ythljanmfanppdaa.Mp Go.Proofs.Ythljanmfanppdaa.Bk
set_option linter.unusedVariables false
set_option linter.unusedSimpArgs false
theorem gate_upon {P : Program} {o : Oper} {a : Act} {Kc : Act → World → Prop} {Q : Exit → Act → World → Prop} {r : Result Next} (h : Oper.upon P o a Kc Q r) : Oper.upon P o a Kc Q r := h
theorem upon_put {κ : Type} [DecidableEq κ] {c : κ → Value} {P : Program} {k e : TypeId} {w : World} {b s : Nat} {f : κ → Option Value} {t : TypeId} {o : Oper} {a : Act} {Kc : Act → World → Prop} {Q : Exit → Act → World → Prop} {val : Value} (hc : ∀ x y, c x = c y → x = y) (h : MapIs c P k w b s f) (K : Keyed P k) (ht : P.underlying t = some (.map k e)) (hn : s < maxLen) {y : κ} {kl : Lit} (hkey : keyOf P k (c y) = some kl)
  (hK : ∀ w', MapIs c P k w' b (if (f y).isSome then s else s + 1) (fun l => if l = y then some val else f l) → w.grownBy w' (some b) → Kc (a.put o.dst undef) w') :
  Oper.upon P o a Kc Q (((Instr.mapUpdate t (.map (some b)) (c y) val).run P w).andThen fun _ w' => .ok .skip w') := by
 obtain ⟨w', hrun, h1, h2⟩ := h.store hc K ht hn hkey val
 rw [hrun]
 exact hK w' h1 h2.grown
structure Pj (w W : World) (B ma ms mm n : Nat) (s : Sv) (sl : Int → Value) (e : Ev7) : Prop where
 sv : SvIs W B ma ms mm n s sl
 sb_ : W.heap[w.heap.size]? = some (.cells (svA ma ms mm) 117 (0, 0))
 eb_ : W.heap[w.heap.size + 1]? = some (.cells e.cells 60 (0, 0))
 fr : Fr w W (spS ms mm)
section
variable {w W W1 : World} {B ma ms mm n n' : Nat} {s s' : Sv} {sl : Int → Value} {e : Ev7}
theorem Pj.start (h : SvIs w B ma ms mm n s sl) (e : Ev7) : Pj w ((w.alloc (.cells (svA ma ms mm) 117)).alloc (.cells e.cells 60)) B ma ms mm n s sl e :=
 ⟨(h.alloc _).alloc _, blk_alloc (blk_new w _) _, blk_new' w _ _, ((Fr.refl w _).alloc _).alloc _⟩
theorem Pj.turn (h : Pj w W B ma ms mm n s sl e) (hs : SvIs W1 B ma ms mm n' s' sl) {k : Nat} (hg : W.grownBy W1 (some k)) (hk : spS ms mm k) : Pj w W1 B ma ms mm n' s' sl e := by
 have f1 := h.sv.far h.sb_
 have f2 := h.sv.far h.eb_
 have ne : ∀ z, z ≠ ma ∧ z ≠ ms ∧ z ≠ mm → some z ≠ some k := fun z hz q => by
  have q := Option.some.inj q
  rcases hk with e | e
  ·exact hz.2.1 (q.trans e)
  ·exact hz.2.2 (q.trans e)
 exact ⟨hs, blk_grown h.sb_ hg (ne _ f1), blk_grown h.eb_ hg (ne _ f2), h.fr.trans ((Fr.of_grown hg).mono fun z q => by rw [Option.some.inj q]; exact hk)⟩
end
def SPost (w : World) (B ma ms mm n : Nat) (s : Sv) (sl : Int → Value) (r : Ending) (w' : World) : Prop := r = .returned (.tuple #[]) ∧ SvIs w' B ma ms mm (n + 2) s sl ∧ Fr w w' (spS ms mm)
theorem spoint_touch_no {w : World} {B ma ms mm n : Nat} {s : Sv} {sl : Int → Value} (i : Nat) (e : Ev7) (hx : (Lit.int .i64 e.cn).wf = true) (hwk : (Lit.int .i64 e.wk).wf = true) (hn : n + 2 ≤ 1000000) (h : SvIs w B ma ms mm n s sl) (o2 : e.op = 2) (h0 : ¬ 0 ≤ (s.snc e.cn).getD 0) :
  Calls Try.prog 86 #[.agg (svA ma ms mm), .int .i64 i, .agg e.cells] w (SPost w B ma ms mm n (ptS s i e) sl) := by
 have hu0 := Try.underlying117
 have hu1 := Try.underlying60
 have HF := Aside0.mk (show ptS s i e = s by unfold ptS; rw [if_pos o2, if_neg h0])
 have g1 : (e.op == 2) = true := beq_iff_eq.2 o2
 have g2 : decide ((s.snc e.cn).getD 0 ≥ 0) = false := decide_eq_false h0
 have HX := Aside0.mk hx
 have HWK := Aside0.mk hwk
 have HN := Aside0.mk hn
 have HJ := Aside0.mk (Pj.start h e)
 clear hx hwk hn h o2 h0
 have hcs := fun z => blk_cell HJ.out.sb_ z
 have hce := fun z => blk_cell HJ.out.eb_ z
 have hls := blk_lt HJ.out.sb_
 have hle := blk_lt HJ.out.eb_
 go_enter Try.func86, Try.ntmps86
 go_upto_region 1 with (fail)
 refine gen_world' (fun W => Pj w W B ma ms mm n s sl e) (by exact HJ.out) fun w3 Hw3 => ?_
 have HJ3 := Aside0.mk Hw3
 clear Hw3 HJ
 clear hcs hce hls hle
 have hcs := fun z => blk_cell HJ3.out.sb_ z
 have hce := fun z => blk_cell HJ3.out.eb_ z
 have hls := blk_lt HJ3.out.sb_
 have hle := blk_lt HJ3.out.eb_
 have hl := HJ3.out.sv.x.lookS HX.out
 go_wp2
 go_end0
 exact ⟨rfl, by rw [HF.out]; exact HJ3.out.sv.up (by omega), HJ3.out.fr⟩
theorem spoint_touch {w : World} {B ma ms mm n : Nat} {s : Sv} {sl : Int → Value} (i : Nat) (e : Ev7) (hx : (Lit.int .i64 e.cn).wf = true) (hwk : (Lit.int .i64 e.wk).wf = true) (hn : n + 2 ≤ 1000000) (h : SvIs w B ma ms mm n s sl) (o2 : e.op = 2) (h0 : 0 ≤ (s.snc e.cn).getD 0) :
  Calls Try.prog 86 #[.agg (svA ma ms mm), .int .i64 i, .agg e.cells] w (SPost w B ma ms mm n (ptS s i e) sl) := by
 have hu0 := Try.underlying117
 have hu1 := Try.underlying60
 have HF := Aside0.mk (show ptS s i e = { s with snc := updI s.snc e.cn i } by unfold ptS; rw [if_pos o2, if_pos h0])
 have g1 : (e.op == 2) = true := beq_iff_eq.2 o2
 have g2 : decide ((s.snc e.cn).getD 0 ≥ 0) = true := decide_eq_true h0
 have HX := Aside0.mk hx
 have HWK := Aside0.mk hwk
 have HN := Aside0.mk hn
 have HJ := Aside0.mk (Pj.start h e)
 clear hx hwk hn h o2 h0
 have hcs := fun z => blk_cell HJ.out.sb_ z
 have hce := fun z => blk_cell HJ.out.eb_ z
 have hls := blk_lt HJ.out.sb_
 have hle := blk_lt HJ.out.eb_
 go_enter Try.func86, Try.ntmps86
 go_upto_region 1 with (fail)
 refine gen_world' (fun W => Pj w W B ma ms mm n s sl e) (by exact HJ.out) fun w3 Hw3 => ?_
 have HJ3 := Aside0.mk Hw3
 clear Hw3 HJ
 clear hcs hce hls hle
 have hcs := fun z => blk_cell HJ3.out.sb_ z
 have hce := fun z => blk_cell HJ3.out.eb_ z
 have hls := blk_lt HJ3.out.sb_
 have hle := blk_lt HJ3.out.eb_
 have hl := HJ3.out.sv.x.lookS HX.out
 obtain ⟨z, hz, hM⟩ := HJ3.out.sv.x.ms_
 have HM := Aside0.mk (And.intro hz hM)
 clear hz hM
 go_wp2_with ((with_reducible refine gate_upon ?_); go_loud (refine upon_put Bk.int_inj HM.out.2 law3 Try.underlying115 (by unfold maxLen; have := HN.out; have := HM.out.1; omega) (y := e.cn) (keyOf_int_mk Try.underlying3 HX.out) ?_; intro w4 hm hg; rw [iV_upd] at hm; have HP := Aside0.mk (HJ3.out.turn (n' := n + 2) (HJ3.out.sv.putS hm (by have := HM.out.1; split <;> omega) (by omega) hg) hg (.inl rfl)); clear hm hg))
 go_end0
 exact ⟨rfl, by rw [HF.out]; exact HP.out.sv, HP.out.fr⟩
theorem Fr.monoB' {w w1 w2 : World} {S S' : Nat → Prop} (h : Fr w1 w2 S) (hs : ∀ g, g < w1.heap.size → S g → w.heap.size ≤ g) (hf : Fr w w1 S') : Fr w w2 S' := ⟨h.os.trans hf.os, h.tape.trans hf.tape, h.output.trans hf.output, Nat.le_trans hf.size h.size, fun g hg hn => (h.block g (by have := hf.size; omega) (fun q => by have := hs g (by have := hf.size; omega) q; omega)).trans (hf.block g hg hn)⟩
structure Rj (w W : World) (B ma ms mm n : Nat) (s : Sv) (sl : Int → Value) (e : Ev7) (D : DataW Value) (left : Lit → Bool) : Prop where
 x : SvX W B ma ms n s.adv s.snc sl
 sb_ : W.heap[w.heap.size]? = some (.cells (svA ma ms mm) 117 (0, 0))
 eb_ : W.heap[w.heap.size + 1]? = some (.cells e.cells 60 (0, 0))
 fr : Fr w W (spS ms mm)
 rng : RngI s.mak (wrap64 (e.cn + 1)) D left
 mp : ∃ es cl, W.heap[mm]? = some (.map es cl)
 d2 : ma ≠ mm
 d3 : ms ≠ mm
 hm : B ≤ mm
section
variable {w W W1 : World} {B ma ms mm n r : Nat} {s : Sv} {sl : Int → Value} {e : Ev7} {D D' : DataW Value} {left left' : Lit → Bool}
theorem Rj.map (h : Rj w W B ma ms mm n s sl e D left) (hg : W.grownBy W1 (some mm)) (hr : RngI s.mak (wrap64 (e.cn + 1)) D' left') (hm : ∃ es cl, W1.heap[mm]? = some (.map es cl)) : Rj w W1 B ma ms mm n s sl e D' left' := by
 obtain ⟨_, _, hq⟩ := h.mp
 exact ⟨h.x.other h.mp h.d2 h.d3 hg, blk_grown h.sb_ hg (fun q => map_ne h.sb_ hq (Option.some.inj q)), blk_grown h.eb_ hg (fun q => map_ne h.eb_ hq (Option.some.inj q)), h.fr.trans ((Fr.of_grown hg).mono fun z q => .inr (Option.some.inj q)), hr, hm, h.d2, h.d3, h.hm⟩
theorem Rj.iter (h : Rj w W B ma ms mm n s sl e D left) (hg : W.grownBy W1 (some r)) (hr : w.heap.size + 1 < r) (hi : ∀ cs t, W.heap[r]? ≠ some (.cells cs t (0, 0))) (h1 : r ≠ ma) (h2 : r ≠ ms) (h3 : r ≠ mm) (hR : RngI s.mak (wrap64 (e.cn + 1)) D left') : Rj w W1 B ma ms mm n s sl e D left' := by
 obtain ⟨es, cl, hq⟩ := h.mp
 refine ⟨h.x.move fun k hk hc => hg.block k hk fun q => ?_, blk_grown h.sb_ hg (fun q => by have := Option.some.inj q; omega), blk_grown h.eb_ hg (fun q => by have := Option.some.inj q; omega), (Fr.of_grown hg).monoB' (fun z hz q => by have := Option.some.inj q; omega) h.fr, hR, ⟨es, cl, (hg.block mm (blk_lt hq) (fun q => h3 (Option.some.inj q).symm)).trans hq⟩, h.d2, h.d3, h.hm⟩
 have q := Option.some.inj q
 rcases hc with e1 | e1 | ⟨cs, e1⟩
 ·exact h1 (q.symm.trans e1)
 ·exact h2 (q.symm.trans e1)
 ·rw [q] at e1; exact hi _ _ e1
end
section
variable {w W W1 : World} {B ma ms mm n r z cnt : Nat} {s : Sv} {sl : Int → Value} {e : Ev7} {D : DataW Value} {left : Lit → Bool}
theorem Rj.start (h : Pj w W B ma ms mm n s sl e) (hD : FunD D s.mak) (hg : W.grownBy W1 none) : Rj w W1 B ma ms mm n s sl e D (has D) := by
 have hb : ∀ k, k < W.heap.size → W1.heap[k]? = W.heap[k]? := fun k hk => hg.block k hk (by simp)
 obtain ⟨es, cl, hq⟩ := h.sv.mapM
 exact ⟨h.sv.x.move (fun k hk _ => hb k hk), (hb _ (blk_lt h.sb_)).trans h.sb_, (hb _ (blk_lt h.eb_)).trans h.eb_, h.fr.trans ((Fr.of_grown hg).mono fun z q => by cases q), RngI.start hD, ⟨es, cl, (hb _ (blk_lt hq)).trans hq⟩, h.sv.d2, h.sv.d3, h.sv.hm⟩
theorem Rj.done (h : Rj w W B ma ms mm n s sl e D left) (hr : W.ranges Try.prog 3 tokR mm r z D left cnt) (hD : FunD D (dropI s.mak (wrap64 (e.cn + 1)))) (hz : z ≤ n) : Pj w W B ma ms mm n { s with mak := dropI s.mak (wrap64 (e.cn + 1)) } sl e :=
 ⟨⟨h.x, ⟨_, Nat.le_trans (own_size hr.owns) hz, map_of_own hr.owns hD⟩, h.d2, h.d3, h.hm⟩, h.sb_, h.eb_, h.fr⟩
theorem iter_facts (hr : W.ranges Try.prog 3 tokR mm r z D left cnt) : (∃ a b c, W.heap[r]? = some (.mapIter (some mm) a b c)) ∧ ∀ cs t, W.heap[r]? ≠ some (.cells cs t (0, 0)) := by
 obtain ⟨es, clock, since, seen, c0, _, _, _, _, h5, _⟩ := hr
 exact ⟨⟨_, _, _, h5⟩, fun cs t q => by rw [h5] at q; cases q⟩
theorem iter_ne (hr : (∃ a b c, W.heap[r]? = some (.mapIter (some mm) a b c)) ∧ ∀ cs t, W.heap[r]? ≠ some (.cells cs t (0, 0))) (h : Rj w W B ma ms mm n s sl e D left) : r ≠ ma ∧ r ≠ ms ∧ r ≠ mm := by
 obtain ⟨⟨a, b, c, hi⟩, _⟩ := hr
 obtain ⟨_, _, h1⟩ := h.x.mapA
 obtain ⟨_, _, h2⟩ := h.x.mapS
 obtain ⟨_, _, h3⟩ := h.mp
 refine ⟨?_, ?_, ?_⟩ <;> (rintro rfl; rw [hi] at *; simp at *)
theorem map_still (hr : W.ranges Try.prog 3 tokR mm r z D left cnt) : ∃ es cl, W.heap[mm]? = some (.map es cl) := by
 obtain ⟨es, clock, since, seen, c0, h, _⟩ := hr
 exact ⟨_, _, h⟩
theorem RngI.val {f0 : Int → Option Int} {v x : Int} {c : Value} (h : RngI f0 v D left) (hx : (Lit.int .i64 x).wf = true) (hl : left (.int .i64 x) = true) (hat : ∀ z, D.atKey (.int .i64 x) z = .held c) : ∃ u, c = .int .i64 u ∧ f0 x = some u := by
 obtain ⟨f, h1, h2⟩ := h
 have hk := keyOf_int_mk Try.underlying3 hx
 rcases h1 x _ hk with ⟨a1, a2⟩ | ⟨u, a1, a2, a3⟩
 ·have q1 := atKey_of_not_has (z := (.held (.int .i64 0) : DataW Value)) a2
  have q2 := atKey_of_not_has (z := (.held (.int .i64 1) : DataW Value)) a2
  rw [hat] at q1 q2
  have := held_inj (q1.symm.trans q2)
  omega
 ·have := (a3 (.held (.int .i64 0))).symm.trans (hat (.held (.int .i64 0)))
  injection this with this
  exact ⟨u, this.symm, by rw [← (h2 x _ hk).1 hl]; exact a1⟩
end
theorem spoint_else {w : World} {B ma ms mm n : Nat} {s : Sv} {sl : Int → Value} (i : Nat) (e : Ev7) (hx : (Lit.int .i64 e.cn).wf = true) (hwk : (Lit.int .i64 e.wk).wf = true) (hn : n + 2 ≤ 1000000) (h : SvIs w B ma ms mm n s sl) (o2 : ¬ e.op = 2) :
  Calls Try.prog 86 #[.agg (svA ma ms mm), .int .i64 i, .agg e.cells] w (SPost w B ma ms mm n (ptS s i e) sl) := by
 have hu0 := Try.underlying117
 have hu1 := Try.underlying60
 have HF := Aside0.mk (show ptS s i e = { s with mak := updI (dropI s.mak (wrap64 (e.cn + 1))) e.wk (wrap64 (e.cn + 1)), snc := updI s.snc e.cn (-1) } by unfold ptS; rw [if_neg o2])
 have g1 : (e.op == 2) = false := beq_eq_false_iff_ne.2 o2
 have HX := Aside0.mk hx
 have HWK := Aside0.mk hwk
 have HN := Aside0.mk hn
 have HJ := Aside0.mk (Pj.start h e)
 clear hx hwk hn h o2
 have hcs := fun z => blk_cell HJ.out.sb_ z
 have hce := fun z => blk_cell HJ.out.eb_ z
 have hls := blk_lt HJ.out.sb_
 have hle := blk_lt HJ.out.eb_
 go_enter Try.func86, Try.ntmps86
 go_upto_region 1 with (fail)
 refine gen_world' (fun W => Pj w W B ma ms mm n s sl e) (by exact HJ.out) fun w3 Hw3 => ?_
 have HJ3 := Aside0.mk Hw3
 clear Hw3 HJ
 clear hcs hce hls hle
 have hcs := fun z => blk_cell HJ3.out.sb_ z
 have hce := fun z => blk_cell HJ3.out.eb_ z
 have hls := blk_lt HJ3.out.sb_
 have hle := blk_lt HJ3.out.eb_
 obtain ⟨z, hz, hM⟩ := HJ3.out.sv.mm_
 obtain ⟨D, hown, hsz, hfd⟩ := map_to_own hM
 have HZ := Aside0.mk hz
 have HFD := Aside0.mk hfd
 clear hz hM hsz hfd
 go_wp2_with (first | (at_range; refine wpList_range_own _ rfl _ 115 rfl 3 3 law3 Try.underlying115 tokR mm z D rfl hown ?_; intro w0 hrg0 hg0 hs0) | go_in)
 go_frame
 have HR0 := Aside0.mk (Rj.start HJ3.out HFD.out hg0)
 have HRL := Aside0.mk (show w.heap.size + 1 < w3.heap.size from blk_lt HJ3.out.eb_)
 obtain ⟨r, hr⟩ : ∃ r, w3.heap.size = r := ⟨_, rfl⟩
 rw [hr] at hrg0 HRL ⊢
 clear hcs hce hls hle hown hg0 hs0 hr
 go_loopw [6, 7] (fun v6 v7 wr => ∃ (D : DataW Value) (left : Lit → Bool) (cnt : Nat), wr.ranges Try.prog 3 tokR mm r z D left cnt ∧ Aside0 (Rj w wr B ma ms mm n s sl e D left)) (fun _ _ wr => wr.rangeLeft mm r)
 case atStart => exact ⟨_, _, _, hrg0, HR0⟩
 case round =>
  clear hrg0 HR0
  obtain ⟨D, left, cnt, hrg, HA⟩ := hrel
  have HRG := Aside0.mk hrg
  have hcs := fun z => blk_cell HA.out.sb_ z
  have hce := fun z => blk_cell HA.out.eb_ z
  have hls := blk_lt HA.out.sb_
  have hle := blk_lt HA.out.eb_
  go_wp2_with (first | (at_next; refine wpList_next_ranges _ rfl _ rfl 3 law3 tokR (Value.int .i64) id (fun key kl hk => by obtain ⟨x, hx, _⟩ := keyOf_int_inv Try.underlying3 hk; exact ⟨x, hx⟩) (fun v y hv => ⟨v, rfl⟩) mm r z D left cnt rfl hrg ?_ ?_) | go_in)
  ·intro hc0 hl0
   have HFN := Aside0.mk (HA.out.rng.done hl0)
   clear hl0 hc0 hrg
   have HS := Aside0.mk (Rj.done HA.out HRG.out HFN.out HZ.out)
   obtain ⟨y, hy, hY⟩ := HS.out.sv.x.ms_
   have HM := Aside0.mk (And.intro hy hY)
   clear hy hY HA
   go_upto_region 10 with (first | ((with_reducible refine gate_upon ?_); go_loud (refine upon_put Bk.int_inj HM.out.2 law3 Try.underlying115 (by unfold maxLen; have := HN.out; have := HM.out.1; omega) (y := e.cn) (keyOf_int_mk Try.underlying3 HX.out) ?_; intro w4 hm hg; rw [iV_upd] at hm; have HP := Aside0.mk (HS.out.turn (n' := n + 1) (HS.out.sv.putS hm (by have := HM.out.1; split <;> omega) (by omega) hg) hg (.inl rfl)); clear hm hg hcs hce hls hle; have hcs := fun z => blk_cell HP.out.sb_ z; have hce := fun z => blk_cell HP.out.eb_ z; have hls := blk_lt HP.out.sb_; have hle := blk_lt HP.out.eb_)) | go_in)
   obtain ⟨y, hy, hY⟩ := HP.out.sv.mm_
   have HM2 := Aside0.mk (And.intro hy hY)
   clear hy hY
   go_wp2_with (first | ((with_reducible refine gate_upon ?_); go_loud (refine upon_put Bk.int_inj HM2.out.2 law3 Try.underlying115 (by unfold maxLen; have := HN.out; have := HM2.out.1; omega) (y := e.wk) (keyOf_int_mk Try.underlying3 HWK.out) ?_; intro w5 hm hg; rw [iV_upd] at hm; have HQ := Aside0.mk (HP.out.turn (n' := n + 2) (HP.out.sv.putM hm (by have := HM2.out.1; split <;> omega) (by omega) hg) hg (.inr rfl)); clear hm hg)) | go_in)
   go_end0
   exact ⟨rfl, by rw [HF.out]; exact HQ.out.sv, HQ.out.fr⟩
  ·intro x c kl yd yp w1 cnt1 hkey hlk hv hat hrg1 hlt1 hg1 hs1 hen
   obtain ⟨rfl, hwx⟩ := key_int hkey
   have hat2 : ∀ zd, D.atKey (.int .i64 x) zd = .held c := fun zd => (hat zd).trans (congrArg Prod.fst (tok_inv hv))
   obtain ⟨cv, hcv, h0⟩ := HA.out.rng.val hwx hlk hat2
   subst hcv
   have H0 := Aside0.mk h0
   have HWX := Aside0.mk hwx
   have HLK := Aside0.mk hlk
   have HRG1 := Aside0.mk hrg1
   have HLT := Aside0.mk hlt1
   have HIT := Aside0.mk (iter_facts HRG.out)
   have HG1 := Aside0.mk hg1
   have hen' : (Instr.entry (.pointer (some ⟨r, 0, none⟩))).run Try.prog w1 = .ok (.tuple #[.int .i64 x, .int .i64 cv]) w1 := hen
   clear hen hs1 hv hat hat2 hkey hwx hlk h0 hrg hrg1 hg1 hlt1
   by_cases hcv : cv = wrap64 (e.cn + 1)
   ·have g2 : (cv == wrap64 (e.cn + 1)) = true := beq_iff_eq.2 hcv
    have H0v := Aside0.mk (show s.mak x = some (wrap64 (e.cn + 1)) by rw [← hcv]; exact H0.out)
    clear hcv
    obtain ⟨h1, h2, h3⟩ := iter_ne HIT.out HA.out
    have HA1 := Aside0.mk (HA.out.iter (left' := left) HG1.out HRL.out HIT.out.2 h1 h2 h3 HA.out.rng)
    clear h1 h2 h3 hcs hce hls hle
    have hcs := fun z => blk_cell HA1.out.sb_ z
    have hce := fun z => blk_cell HA1.out.eb_ z
    have hls := blk_lt HA1.out.sb_
    have hle := blk_lt HA1.out.eb_
    have hrg2 := HRG1.out
    go_wp2_with (first | (at_delete; refine wpList_delete_ranges _ rfl _ _ 115 3 rfl 3 law3 Try.underlying115 tokR mm r z D _ cnt1 rfl hrg2 (.int .i64 x) (.int .i64 x) rfl (keyOf_int_mk Try.underlying3 HWX.out) ?_; intro w2 cnt2 hrg3 hle3 hturn; have HRG3 := Aside0.mk hrg3; have HTU := Aside0.mk hturn; have HLE3 := Aside0.mk hle3; clear hrg3 hturn hle3 hrg2) | go_in)
    have HA2 := Aside0.mk (HA1.out.map HTU.out.grown (HA.out.rng.drop HWX.out H0v.out) (map_still HRG3.out))
    have hrg4 := HRG3.out
    go_frame
    go_roundw
    case rel => exact ⟨_, _, cnt2, hrg4, HA2⟩
    case measure => rw [hrg4.left_eq, HRG.out.left_eq]; exact Nat.lt_of_le_of_lt HLE3.out HLT.out
   ·have g2 : (cv == wrap64 (e.cn + 1)) = false := beq_eq_false_iff_ne.2 hcv
    have HK := Aside0.mk (HA.out.rng.keep HWX.out HLK.out H0.out hcv)
    clear hcv
    obtain ⟨h1, h2, h3⟩ := iter_ne HIT.out HA.out
    have HA1 := Aside0.mk (HA.out.iter HG1.out HRL.out HIT.out.2 h1 h2 h3 HK.out)
    clear h1 h2 h3 hcs hce hls hle
    have hcs := fun z => blk_cell HA1.out.sb_ z
    have hce := fun z => blk_cell HA1.out.eb_ z
    have hls := blk_lt HA1.out.sb_
    have hle := blk_lt HA1.out.eb_
    go_wp2
    have hrg4 := HRG1.out
    go_roundw
    case rel => exact ⟨_, _, cnt1, hrg4, HA1⟩
    case measure => rw [hrg4.left_eq, HRG.out.left_eq]; exact HLT.out
theorem spoint_any {w : World} {B ma ms mm n : Nat} {s : Sv} {sl : Int → Value} (i : Nat) (e : Ev7) (hx : (Lit.int .i64 e.cn).wf = true) (hwk : (Lit.int .i64 e.wk).wf = true) (hn : n + 2 ≤ 1000000) (h : SvIs w B ma ms mm n s sl) :
  Calls Try.prog 86 #[.agg (svA ma ms mm), .int .i64 i, .agg e.cells] w (SPost w B ma ms mm n (ptS s i e) sl) := by
 by_cases o2 : e.op = 2
 ·by_cases h0 : 0 ≤ (s.snc e.cn).getD 0
  ·exact spoint_touch i e hx hwk hn h o2 h0
  ·exact spoint_touch_no i e hx hwk hn h o2 h0
 ·exact spoint_else i e hx hwk hn h o2
end Go.Proofs.Ythljanmfanppdaa.Vd
end
section
namespace Go.Proofs.Ythljanmfanppdaa.Vd
open Go.RowKit Go.Maps Go.Proofs.YthljanmfanppdaaW.PrintWords Go.Proofs.YthljanmfanppdaaW.PrintLast Go.Proofs.YthljanmfanppdaaW.PrintMore Go.Proofs.Ythljanmfanppdaa.Mp Go.Proofs.Ythljanmfanppdaa.Bk
set_option linter.unusedVariables false
set_option linter.unusedSimpArgs false
def goneB (since at_ : Int) (a : Ad) : Bool := a.thr && (decide (a.beg > since) && decide (a.clk ≥ at_))
structure Gj (w W : World) (B ma ms mm n : Nat) (s : Sv) (sl : Int → Value) (c : Cf) : Prop where
 sv : SvIs W B ma ms mm n s sl
 sb_ : W.heap[w.heap.size]? = some (.cells (svA ma ms mm) 117 (0, 0))
 cb_ : W.heap[w.heap.size + 1]? = some (.cells c.cells 36 (0, 0))
 bel : Below w.heap.size w W
section
variable {w W W1 : World} {B ma ms mm n : Nat} {s : Sv} {sl : Int → Value} {c : Cf}
theorem Gj.start (h : SvIs w B ma ms mm n s sl) (c : Cf) : Gj w ((w.alloc (.cells (svA ma ms mm) 117)).alloc (.cells c.cells 36)) B ma ms mm n s sl c :=
 ⟨(h.alloc _).alloc _, blk_alloc (blk_new w _) _, blk_new' w _ _, below_alloc (below_alloc (Below.refl _ _) _) _⟩
theorem Gj.step (h : Gj w W B ma ms mm n s sl c) (hb : Below W.heap.size W W1) : Gj w W1 B ma ms mm n s sl c := ⟨h.sv.below hb, blk_below h.sb_ hb, blk_below h.cb_ hb, below_step h.bel hb⟩
theorem Gj.alloc (h : Gj w W B ma ms mm n s sl c) (o : Obj) : Gj w (W.alloc o) B ma ms mm n s sl c := h.step (below_alloc (Below.refl _ _) o)
end
theorem range_snoc (k : Nat) (p : Nat → Bool) : (List.range (k + 1)).all p = ((List.range k).all p && p k) := by
 rw [List.range_succ, List.all_append]
 simp
theorem range_no {n k : Nat} {p : Nat → Bool} (hk : k < n) (h : p k = false) : (List.range n).all p = false := by
 rw [Bool.eq_false_iff]
 intro q
 rw [List.all_eq_true] at q
 rw [q k (List.mem_range.2 hk)] at h
 cases h
theorem any_snoc {l : List Ad} {k : Nat} {a : Ad} (p : Ad → Bool) (h : l[k]? = some a) : (l.take (k + 1)).any p = ((l.take k).any p || p a) := by
 obtain ⟨h1, h2⟩ := List.getElem?_eq_some_iff.1 h
 rw [List.take_succ_eq_append_getElem h1, h2, List.any_append]
 simp
theorem wf_nat {k : Nat} (h : k ≤ 1000000) : (Lit.int .i64 (k : Int)).wf = true := by
 have e1 : IntKind.i64.min = -9223372036854775808 := by rfl
 have e2 : IntKind.i64.max = 9223372036854775807 := by rfl
 simp only [Lit.wf, decide_eq_true_eq, Bool.and_eq_true]
 omega
set_option maxHeartbeats 4000000 in
set_option maxRecDepth 100000 in
theorem gone_any {w : World} {B ma ms mm n : Nat} {s : Sv} {sl : Int → Value} (c : Cf) (since at_ : Int) (hc : 0 ≤ c.c0 ∧ c.c0 ≤ 64) (hn : n ≤ 1000000) (h : SvIs w B ma ms mm n s sl) :
  Calls Try.prog 71 #[.agg (svA ma ms mm), .agg c.cells, .int .i64 since, .int .i64 at_] w fun r w' => r = .returned (.bool (goneV c.c0 s since at_)) ∧ Below w.heap.size w w' := by
 have hu0 := Try.underlying117
 have hu1 := Try.underlying36
 have hu2 := Try.underlying142
 obtain ⟨N, hN⟩ : ∃ N : Nat, c.c0 = (N : Int) := ⟨c.c0.toNat, by omega⟩
 have HG := Aside0.mk (show goneV c.c0 s since at_ = (List.range N).all fun x => (s.adv (x : Int)).any (goneB since at_) by unfold goneV; rw [hN]; rfl)
 have HNB := Aside0.mk (show N ≤ 64 by omega)
 have HC0 := Aside0.mk hN
 have HN := Aside0.mk hn
 have HJ := Aside0.mk (Gj.start h c)
 clear hc hn h hN
 have hcs := fun z => blk_cell HJ.out.sb_ z
 have hcc := fun z => blk_cell HJ.out.cb_ z
 have hls := blk_lt HJ.out.sb_
 have hlc := blk_lt HJ.out.cb_
 go_enter Try.func71, Try.ntmps71
 have hcN := HC0.out
 go_wp2
 clear hcN
 go_loopw [15] (fun v wr => ∃ k : Nat, k ≤ N ∧ v = .int .i64 k ∧ Aside0 ((Gj w wr B ma ms mm n s sl c) ∧ ((List.range k).all fun x => (s.adv (x : Int)).any (goneB since at_)) = true)) (fun v _ => N - (intOf v).toNat)
 case atStart => exact ⟨0, Nat.zero_le _, rfl, ⟨HJ.out, rfl⟩⟩
 case round =>
  clear HJ hcs hcc hls hlc
  obtain ⟨k, hk, rfl, HI⟩ := hrel
  rcases Nat.lt_or_ge k N with hlt | hge
  ·have q0 : ((k : Int) < (N : Int)) = True := eq_true (by omega)
   have hnn : wrap64 ((k : Int) + 1) = ((k + 1 : Nat) : Int) := by have := HNB.out; unfold wrap64; omega
   obtain ⟨L, hL⟩ : ∃ L, s.adv (k : Int) = L := ⟨_, rfl⟩
   have HL := Aside0.mk hL
   have hrow := HI.out.1.sv.x.row (k : Int)
   rw [hL] at hrow
   obtain ⟨A, cap, hv, hcap⟩ := hrow.form
   have HV := Aside0.mk hv
   have HLN := Aside0.mk (show L.length ≤ 1000000 by have := HI.out.1.sv.x.len (k : Int); rw [hL] at this; have := HN.out; omega)
   have hl := HI.out.1.sv.x.lookA (wf_nat (k := k) (by have := HNB.out; omega))
   rw [hv] at hl
   clear hL hrow hv hcap
   have hcs := fun z => blk_cell HI.out.1.sb_ z
   have hcc := fun z => blk_cell HI.out.1.cb_ z
   have hls := blk_lt HI.out.1.sb_
   have hlc := blk_lt HI.out.1.cb_
   go_wp2
   have HI1 := Aside0.mk HI.out.1
   obtain ⟨wo, rfl⟩ : ∃ wo : World, wo = wr := ⟨_, rfl⟩
   go_loopw [10, 23] (fun v10 v23 wq => ∃ j : Nat, j ≤ L.length ∧ v23 = .int .i64 j ∧ v10 = .bool ((L.take j).any (goneB since at_)) ∧ Aside0 (Gj w wq B ma ms mm n s sl c)) (fun _ v23 _ => L.length - (intOf v23).toNat)
   case atStart => exact ⟨0, Nat.zero_le _, rfl, rfl, HI1⟩
   case round =>
    clear HI1 hcs hcc hls hlc hl q0
    obtain ⟨j, hj, rfl, rfl, HQ⟩ := hrel
    rcases Nat.lt_or_ge j L.length with hjl | hjg
    ·have p1 : (0 : Int) ≤ (j : Int) := Int.natCast_nonneg j
     have q1 : (j : Int) < (L.length : Int) := Int.ofNat_lt.2 hjl
     obtain ⟨a, ha⟩ : ∃ a, L[j]? = some a := ⟨_, List.getElem?_eq_getElem hjl⟩
     have hrow := HQ.out.sv.x.row (k : Int)
     rw [HL.out, HV.out] at hrow
     obtain ⟨g, cp, hv, hcp, hgl, hcell⟩ := hrow.at_ (fun _ => rfl) ha
     injection hv with hv1 hv2 hv3
     subst hv1
     have hjj : wrap64 ((j : Int) + 1) = ((j + 1 : Nat) : Int) := by have := HLN.out; unfold wrap64; omega
     have HT := Aside0.mk (any_snoc (goneB since at_) ha)
     have d0 := hcell 0 (by decide)
     have d1 := hcell 1 (by decide)
     have d2 := hcell 2 (by decide)
     rw [Nat.add_zero] at d0
     replace q1 := eq_true q1
     replace p1 := eq_true p1
     clear hcell ha hv2 hv3 hrow hcp
     have HQ2 := Aside0.mk (HQ.out.alloc (.cells (adA a) 142))
     obtain ⟨f, hf⟩ : ∃ f, (L.take j).any (goneB since at_) = f := ⟨_, rfl⟩
     rw [hf] at HT ⊢
     clear hf
     obtain ⟨ab, ac, th⟩ := a
     cases f with
     | true =>
      have HB := Aside0.mk (rfl : goneB since at_ ⟨ab, ac, th⟩ = goneB since at_ ⟨ab, ac, th⟩)
      go_wp2
      go_roundw
      case rel => exact ⟨j + 1, Nat.succ_le_of_lt hjl, by first | rw [hjj] | simp, by rw [HT.out]; rfl, HQ2⟩
      case measure => first | (rw [hjj]; simp [intOf]; omega) | (simp [intOf]; omega)
     | false =>
      cases th with
      | false =>
       have HB := Aside0.mk (show goneB since at_ ⟨ab, ac, false⟩ = false by unfold goneB; rfl)
       go_wp2
       go_roundw
       case rel => exact ⟨j + 1, Nat.succ_le_of_lt hjl, by first | rw [hjj] | simp, by rw [HT.out, HB.out]; rfl, HQ2⟩
       case measure => first | (rw [hjj]; simp [intOf]; omega) | (simp [intOf]; omega)
      | true =>
       cases t1 : decide (ab > since) with
       | false =>
        have HB := Aside0.mk (show goneB since at_ ⟨ab, ac, true⟩ = false by unfold goneB; rw [t1]; rfl)
        go_wp2
        go_roundw
        case rel => exact ⟨j + 1, Nat.succ_le_of_lt hjl, by first | rw [hjj] | simp, by rw [HT.out, HB.out]; rfl, HQ2⟩
        case measure => first | (rw [hjj]; simp [intOf]; omega) | (simp [intOf]; omega)
       | true =>
        cases t2 : decide (ac ≥ at_) with
        | false =>
         have HB := Aside0.mk (show goneB since at_ ⟨ab, ac, true⟩ = false by unfold goneB; rw [t1, t2]; rfl)
         go_wp2
         go_roundw
         case rel => exact ⟨j + 1, Nat.succ_le_of_lt hjl, by first | rw [hjj] | simp, by rw [HT.out, HB.out]; rfl, HQ2⟩
         case measure => first | (rw [hjj]; simp [intOf]; omega) | (simp [intOf]; omega)
        | true =>
         have HB := Aside0.mk (show goneB since at_ ⟨ab, ac, true⟩ = true by unfold goneB; rw [t1, t2]; rfl)
         go_wp2
         go_roundw
         case rel => exact ⟨j + 1, Nat.succ_le_of_lt hjl, by first | rw [hjj] | simp, by rw [HT.out, HB.out]; rfl, HQ2⟩
         case measure => first | (rw [hjj]; simp [intOf]; omega) | (simp [intOf]; omega)
    ·have q1 : ((j : Int) < (L.length : Int)) = False := eq_false (by omega)
     have hE : L.take j = L := List.take_of_length_le hjg
     rw [hE]
     clear hE hjg hj
     have hcs := fun z => blk_cell HQ.out.sb_ z
     have hcc := fun z => blk_cell HQ.out.cb_ z
     have hls := blk_lt HQ.out.sb_
     have hlc := blk_lt HQ.out.cb_
     cases hf : L.any (goneB since at_) with
     | false =>
      have HF := Aside0.mk (show goneV c.c0 s since at_ = false by rw [HG.out]; exact range_no (p := fun x => (s.adv (x : Int)).any (goneB since at_)) hlt (by rw [HL.out]; exact hf))
      clear hf
      go_wp2
      go_ret
      exact ⟨by rw [HF.out]; rfl, HQ.out.bel⟩
     | true =>
      have HF := Aside0.mk (show ((List.range (k + 1)).all fun x => (s.adv (x : Int)).any (goneB since at_)) = true by rw [range_snoc, HI.out.2, HL.out, hf]; rfl)
      clear hf
      go_wp2
      go_roundw
      case rel => exact ⟨k + 1, Nat.succ_le_of_lt hlt, by first | rw [hnn] | simp, ⟨HQ.out, HF.out⟩⟩
      case measure => first | (rw [hnn]; simp [intOf]; omega) | (simp [intOf]; omega)
  ·have q0 : ((k : Int) < (N : Int)) = False := eq_false (by omega)
   have HF := Aside0.mk (show goneV c.c0 s since at_ = true by rw [HG.out]; have := HI.out.2; rw [show k = N by omega] at this; exact this)
   have hcs := fun z => blk_cell HI.out.1.sb_ z
   have hcc := fun z => blk_cell HI.out.1.cb_ z
   have hls := blk_lt HI.out.1.sb_
   have hlc := blk_lt HI.out.1.cb_
   clear hk hge
   go_wp2
   go_ret
   exact ⟨by rw [HF.out]; rfl, HI.out.1.bel⟩
end Go.Proofs.Ythljanmfanppdaa.Vd
end
section
namespace Go.Proofs.Ythljanmfanppdaa.Vd
open Go.RowKit Go.Maps Go.Proofs.YthljanmfanppdaaW.PrintWords Go.Proofs.YthljanmfanppdaaW.PrintLast Go.Proofs.YthljanmfanppdaaW.PrintMore Go.Proofs.Ythljanmfanppdaa.Mp Go.Proofs.Ythljanmfanppdaa.Bk
set_option linter.unusedVariables false
set_option linter.unusedSimpArgs false
structure Hj (w W : World) (rb sb ma ms mm n : Nat) (s : Sv) (sl : Int → Value) : Prop where
 sv : SvIs W w.heap.size ma ms mm n s sl
 rb_ : W.heap[rb]? = some (.cells #[.map none, .map none, .map none] 117 (0, 0))
 sb_ : W.heap[sb]? = some (.cells (svA ma ms mm) 117 (0, 0))
 bel : Below w.heap.size w W
 hr : w.heap.size ≤ rb
section
variable {w W W1 : World} {rb sb ma ms mm n n' eb : Nat} {s s' : Sv} {sl sl' : Int → Value} {e : Ev7}
theorem Hj.step (h : Hj w W rb sb ma ms mm n s sl) (hb : Below W.heap.size W W1) : Hj w W1 rb sb ma ms mm n s sl := ⟨h.sv.below hb, blk_below h.rb_ hb, blk_below h.sb_ hb, below_step h.bel hb, h.hr⟩
theorem Hj.alloc (h : Hj w W rb sb ma ms mm n s sl) (o : Obj) : Hj w (W.alloc o) rb sb ma ms mm n s sl := h.step (below_alloc (Below.refl _ _) o)
theorem Hj.drew (h : Hj w W rb sb ma ms mm n s sl) : Hj w W.drew rb sb ma ms mm n s sl := ⟨h.sv.drew, h.rb_, h.sb_, below_drew h.bel, h.hr⟩
theorem Hj.up (h : Hj w W rb sb ma ms mm n s sl) (hn : n ≤ n') : Hj w W rb sb ma ms mm n' s sl := ⟨h.sv.up hn, h.rb_, h.sb_, h.bel, h.hr⟩
theorem Hj.turn (h : Hj w W rb sb ma ms mm n s sl) (hs : SvIs W1 w.heap.size ma ms mm n' s' sl') (hf : Fr W W1 (spS ms mm)) : Hj w W1 rb sb ma ms mm n' s' sl' := by
 have f1 := h.sv.far h.rb_
 have f2 := h.sv.far h.sb_
 have no : ∀ k, k ≠ ma ∧ k ≠ ms ∧ k ≠ mm → ¬ spS ms mm k := fun k q z => z.elim q.2.1 q.2.2
 exact ⟨hs, hf.blk h.rb_ (no _ f1), hf.blk h.sb_ (no _ f2), h.bel.trans (hf.below h.bel.size (by rintro k (rfl | rfl); exact h.sv.x.hs; exact h.sv.hm)), h.hr⟩
theorem Hj.putS {f : Int → Option Int} {z' : Nat} (h : Hj w W rb sb ma ms mm n s sl) (hm : MapIs (Value.int .i64) Try.prog 3 W1 ms z' (iV f)) (hz : z' ≤ n') (hn : n ≤ n') (hg : W.grownBy W1 (some ms)) : Hj w W1 rb sb ma ms mm n' { s with snc := f } sl :=
 h.turn (h.sv.putS hm hz hn hg) ((Fr.of_grown hg).mono fun z q => .inl (Option.some.inj q))
theorem Hj.putM {f : Int → Option Int} {z' : Nat} (h : Hj w W rb sb ma ms mm n s sl) (hm : MapIs (Value.int .i64) Try.prog 3 W1 mm z' (iV f)) (hz : z' ≤ n') (hn : n ≤ n') (hg : W.grownBy W1 (some mm)) : Hj w W1 rb sb ma ms mm n' { s with mak := f } sl :=
 h.turn (h.sv.putM hm hz hn hg) ((Fr.of_grown hg).mono fun z q => .inr (Option.some.inj q))
theorem Hj.app {x : Int} {a : Ad} {g cap : Nat} {w6 : World} (h : Hj w W rb sb ma ms mm n s sl) (hown : RowIs w6 w.heap.size 142 3 adA (.slice (some ⟨g, 0, none⟩) ((s.adv x).length + 1) cap) (s.adv x ++ [a])) (hg : (W.alloc (.cells (adA a) 142)).grownBy w6 (sl x).ownBlock) (hat : (sl x).ownBlock = some g ∨ g = W.heap.size + 1) :
  ∃ z, z ≤ n ∧ MapIs (Value.int .i64) Try.prog 3 w6 ma z (aV s.adv sl) ∧ ∀ w7, MapIs (Value.int .i64) Try.prog 3 w7 ma (if (aV s.adv sl x).isSome then z else z + 1) (fun l => if l = x then some (.slice (some ⟨g, 0, none⟩) ((s.adv x).length + 1) cap) else aV s.adv sl l) → w6.grownBy w7 (some ma) →
   Hj w w7 rb sb ma ms mm (n + 1) { s with adv := updA s.adv x (s.adv x ++ [a]) } (updS sl x (.slice (some ⟨g, 0, none⟩) ((s.adv x).length + 1) cap)) := by
 obtain ⟨z, hz, hM, hnext⟩ := h.sv.x.app h.bel.size hown hg hat
 have h' := h.alloc (.cells (adA a) 142)
 obtain ⟨zm, hzm, hmm⟩ := h'.sv.mm_
 obtain ⟨_, _, hmb⟩ := h'.sv.mapM
 obtain ⟨_, _, hma⟩ := h'.sv.x.mapA
 have own : ∀ k, (sl x).ownBlock = some k → ∃ cur, (W.alloc (.cells (adA a) 142)).heap[k]? = some (.cells cur 142 (0, 0)) := fun k hk => (h'.sv.x.row x).own hk
 have ne6 : ∀ k cs t, (W.alloc (.cells (adA a) 142)).heap[k]? = some (.cells cs t (0, 0)) → t ≠ 142 → some k ≠ (sl x).ownBlock := fun k cs t hk ht q => by
  obtain ⟨cur, hc⟩ := own k q.symm
  exact types_ne hk hc ht rfl
 have nem : some mm ≠ (sl x).ownBlock := fun q => by
  obtain ⟨cur, hc⟩ := own mm q.symm
  exact map_ne hc hmb rfl
 have r6 := blk_grown h'.rb_ hg (ne6 _ _ _ h'.rb_ (by decide))
 have s6 := blk_grown h'.sb_ hg (ne6 _ _ _ h'.sb_ (by decide))
 have m6 := hmm.move (hg.block mm hmm.lt nem)
 refine ⟨z, hz, hM, fun w7 hm7 hg7 => ?_⟩
 obtain ⟨_, _, ha6⟩ := hM.block
 have hlt6 := m6.lt
 refine ⟨⟨hnext w7 hm7 hg7, ⟨zm, by omega, m6.move (hg7.block mm m6.lt (fun q => h.sv.d2 (Option.some.inj q).symm))⟩, h.sv.d2, h.sv.d3, h.sv.hm⟩, blk_grown r6 hg7 (fun q => map_ne r6 ha6 (Option.some.inj q)), blk_grown s6 hg7 (fun q => map_ne s6 ha6 (Option.some.inj q)), ?_, h.hr⟩
 refine (h'.bel.trans ((Fr.of_grown hg).below h'.bel.size fun k q => ?_)).trans ((Fr.of_grown hg7).below (by have := h'.bel.size; have := hg.size; omega) fun k q => by rw [Option.some.inj q]; exact h.sv.x.ha)
 exact ((h.sv.x.row x).low q.symm).1
theorem Hj.thr {x : Int} {g cap k : Nat} (h : Hj w W rb sb ma ms mm n s sl) (hk : (s.adv x).length = k + 1) (hs : sl x = .slice (some ⟨g, 0, none⟩) (k + 1) cap) : Hj w (W.setCell ⟨g, k * 3 + 2, none⟩ (.bool true)) rb sb ma ms mm n { s with adv := updA s.adv x (thrL (s.adv x)) } sl := by
 have hown : (sl x).ownBlock = some g := by rw [hs]; rfl
 obtain ⟨cur, hg⟩ := (h.sv.x.row x).own hown
 have hlow := ((h.sv.x.row x).low hown).1
 obtain ⟨z, hz, hM⟩ := h.sv.mm_
 obtain ⟨_, _, hmb⟩ := h.sv.mapM
 exact ⟨⟨h.sv.x.thr hk hs, ⟨z, hz, hM.move (Below.heap_setCell _ _ _ _ (map_ne hg hmb).symm)⟩, h.sv.d2, h.sv.d3, h.sv.hm⟩, blk_far h.rb_ (types_ne h.rb_ hg (by decide)) _, blk_far h.sb_ (types_ne h.sb_ hg (by decide)) _, h.bel.setCell hlow _, h.hr⟩
structure Hk (w W : World) (rb sb ma ms mm n : Nat) (s : Sv) (sl : Int → Value) (e : Ev7) (eb : Nat) : Prop where
 hj : Hj w W rb sb ma ms mm n s sl
 eb_ : W.heap[eb]? = some (.cells e.cells 60 (0, 0))
theorem Hk.start (h : Hj w W rb sb ma ms mm n s sl) (e : Ev7) : Hk w (W.alloc (.cells e.cells 60)) rb sb ma ms mm n s sl e W.heap.size := ⟨h.alloc _, blk_new W _⟩
theorem aV_look {w : World} {ma z : Nat} {adv : Int → List Ad} {sl : Int → Value} (hM : MapIs (Value.int .i64) Try.prog 3 w ma z (aV adv sl)) (hn : ∀ x, adv x = [] → sl x = .slice none 0 0) {x : Int} (hx : (Lit.int .i64 x).wf = true) : (Instr.lookup 114 (.map (some ma)) (.int .i64 x) false).run Try.prog w = .ok (sl x) w := by
 rw [hM.look law3 Try.underlying114 (zeroA w) (x := x) (keyOf_int_mk Try.underlying3 hx)]
 unfold aV
 by_cases e : adv x = []
 ·rw [if_pos e, hn x e]; rfl
 ·rw [if_neg e]; rfl
theorem Hk.held6 {x : Int} {a : Ad} {w6 : World} {z : Nat} (h : Hk w W rb sb ma ms mm n s sl e eb) (hx : (Lit.int .i64 x).wf = true) (hg : (W.alloc (.cells (adA a) 142)).grownBy w6 (sl x).ownBlock) (hM : MapIs (Value.int .i64) Try.prog 3 w6 ma z (aV s.adv sl)) :
  (∀ z, w6.cell? ⟨sb, z, none⟩ = (svA ma ms mm)[z]?) ∧ (∀ z, w6.cell? ⟨eb, z, none⟩ = (e.cells)[z]?) ∧ (Instr.lookup 114 (.map (some ma)) (.int .i64 x) false).run Try.prog w6 = .ok (sl x) w6 := by
 have h' := h.hj.alloc (.cells (adA a) 142)
 have ne6 : ∀ k cs t, (W.alloc (.cells (adA a) 142)).heap[k]? = some (.cells cs t (0, 0)) → t ≠ 142 → some k ≠ (sl x).ownBlock := fun k cs t hk ht q => by
  obtain ⟨cur, hc⟩ := (h'.sv.x.row x).own q.symm
  exact types_ne hk hc ht rfl
 have he := blk_alloc h.eb_ (.cells (adA a) 142)
 exact ⟨fun z => blk_cell (blk_grown h'.sb_ hg (ne6 _ _ _ h'.sb_ (by decide))) z, fun z => blk_cell (blk_grown he hg (ne6 _ _ _ he (by decide))) z, aV_look hM h.hj.sv.x.nil_ hx⟩
theorem Hk.alloc (h : Hk w W rb sb ma ms mm n s sl e eb) (o : Obj) : Hk w (W.alloc o) rb sb ma ms mm n s sl e eb := ⟨h.hj.alloc o, blk_alloc h.eb_ o⟩
theorem Hk.drew (h : Hk w W rb sb ma ms mm n s sl e eb) : Hk w W.drew rb sb ma ms mm n s sl e eb := ⟨h.hj.drew, h.eb_⟩
theorem Hk.cells (h : Hk w W rb sb ma ms mm n s sl e eb) : (∀ z, W.cell? ⟨sb, z, none⟩ = (svA ma ms mm)[z]?) ∧ (∀ z, W.cell? ⟨eb, z, none⟩ = (e.cells)[z]?) := ⟨fun z => blk_cell h.hj.sb_ z, fun z => blk_cell h.eb_ z⟩
end
theorem SvIs.set {w : World} {B ma ms mm n k i : Nat} {s : Sv} {sl : Int → Value} {cs : Array Value} {u : Value} (h : SvIs w B ma ms mm n s sl) (hk : w.heap[k]? = some (.cells cs 117 (0, 0))) : SvIs (w.setCell ⟨k, i, none⟩ u) B ma ms mm n s sl := by
 have f := h.far hk
 have no : ∀ q, q ≠ k → (w.setCell ⟨k, i, none⟩ u).heap[q]? = w.heap[q]? := fun q hq => Below.heap_setCell _ _ _ _ hq
 obtain ⟨z, hz, hM⟩ := h.mm_
 refine ⟨h.x.move fun q _ hc => no q ?_, ⟨z, hz, hM.move (no mm f.2.2.symm)⟩, h.d2, h.d3, h.hm⟩
 rcases hc with rfl | rfl | ⟨cs', hc⟩
 ·exact f.1.symm
 ·exact f.2.1.symm
 ·exact types_ne hc hk (by decide)
theorem Hj.end_ {w W : World} {sb ma ms mm n : Nat} {s : Sv} {sl : Int → Value} (h : Hj w W w.heap.size sb ma ms mm n s sl) :
  SvIs (((W.setCell ⟨w.heap.size, 0, none⟩ (.map (some ma))).setCell ⟨w.heap.size, 1, none⟩ (.map (some ms))).setCell ⟨w.heap.size, 2, none⟩ (.map (some mm))) w.heap.size ma ms mm n s sl ∧ Below w.heap.size w (((W.setCell ⟨w.heap.size, 0, none⟩ (.map (some ma))).setCell ⟨w.heap.size, 1, none⟩ (.map (some ms))).setCell ⟨w.heap.size, 2, none⟩ (.map (some mm))) := by
 have h1 := blk_set h.rb_ 0 (.map (some ma))
 have h2 := blk_set h1 1 (.map (some ms))
 exact ⟨((h.sv.set h.rb_).set h1).set h2, ((h.bel.setCell (Nat.le_refl _) _).setCell (Nat.le_refl _) _).setCell (Nat.le_refl _) _⟩
theorem read_cases (e : Ev7) : e.k = 1 ∨ (e.k = 2 ∧ e.op = 6) ∨ (e.k = 5 ∧ e.op = 6) ∨ (e.k = 5 ∧ ¬ e.op = 6) ∨ (e.k = 3 ∧ e.er = 0) ∨ (e.k = 2 ∧ ¬ e.op = 6) ∨ (e.k = 3 ∧ ¬ e.er = 0) ∨ (¬ e.k = 1 ∧ ¬ e.k = 2 ∧ ¬ e.k = 3 ∧ ¬ e.k = 5) := by omega
theorem wf_wrap (x : Int) : (Lit.int .i64 (wrap64 x)).wf = true := by
 have e1 : IntKind.i64.min = -9223372036854775808 := by rfl
 have e2 : IntKind.i64.max = 9223372036854775807 := by rfl
 simp only [Lit.wf, decide_eq_true_eq, Bool.and_eq_true]
 unfold wrap64
 omega
theorem thr_wrap {n m k : Nat} (h : n ≤ 2 * k) (hk : 2 * k ≤ 900000) (hm : n = m + 1) : wrap64 (m : Int) = (m : Int) := by unfold wrap64; omega
theorem readS_succ {l : List Ev7} {k : Nat} {e : Ev7} (h : l[k]? = some e) : readS l (k + 1) = stepS (readS l k) k e := by
 show (match l[k]? with | none => readS l k | some e' => stepS (readS l k) k e') = _
 rw [h]
def vrR.T9 : Bool × List (List Nat × List Nat) := (true, [([], []), ([0], [0]), ([], []), ([2], [2]), ([], []), ([4], [4]), ([], []), ([6], [6]), ([5, 7], [5, 7]), ([], []), ([], []), ([9, 10], [9, 10]), ([11], [11]), ([8, 12], [8, 12]), ([1, 3, 13, 13, 0, 1, 2, 3, 4, 5, 6, 7, 8, 9, 10, 11, 12, 13], [1, 3, 13])])
def vrR.B9 : List Nat := [0, 1, 0, 4, 0, 16, 0, 64, 240, 0, 0, 1536, 3584, 8176, 16383]
theorem vrR.tab9 : rtab .any (opsOf Try.f70 9) = vrR.T9 := by kernel_rfl
theorem vrR.bits9 : waitsOk vrR.T9.2 vrR.B9 = true := by kernel_rfl
theorem Hj.start (w : World) : Hj w (((((w.alloc (.cells #[.map none, .map none, .map none] 117)).alloc (.map #[] 0)).alloc (.map #[] 0)).alloc (.map #[] 0)).alloc (.cells (svA (w.heap.size + 1) (w.heap.size + 1 + 1) (w.heap.size + 1 + 1 + 1)) 117)) w.heap.size (w.heap.size + 1 + 1 + 1 + 1) (w.heap.size + 1) (w.heap.size + 1 + 1) (w.heap.size + 1 + 1 + 1) 0 sv0 (fun _ => .slice none 0 0) := by
 have b0 := blk_new w (.cells #[.map none, .map none, .map none] 117)
 have hi : iV (fun _ => none) = (fun _ => none : Int → Option Value) := rfl
 have ha : aV (fun _ => []) (fun _ => .slice none 0 0) = (fun _ => none : Int → Option Value) := rfl
 generalize hw1 : w.alloc (.cells #[.map none, .map none, .map none] 117) = w1 at b0 ⊢
 have z1 : w1.heap.size = w.heap.size + 1 := by rw [← hw1]; simp
 have q1 : Below w.heap.size w w1 := by rw [← hw1]; exact below_alloc (Below.refl _ _) _
 have m1 := MapIs.made (c := Value.int .i64) w1 Try.prog 3
 have b1 := blk_alloc b0 (.map #[] 0)
 have q2 : Below w.heap.size w (w1.alloc (.map #[] 0)) := below_alloc q1 _
 rw [z1] at m1
 generalize hw2 : w1.alloc (.map #[] 0) = w2 at m1 b1 q2 ⊢
 have z2 : w2.heap.size = w.heap.size + 1 + 1 := by rw [← hw2]; simp [z1]
 have m2 := MapIs.made (c := Value.int .i64) w2 Try.prog 3
 have b2 := blk_alloc b1 (.map #[] 0)
 have q3 : Below w.heap.size w (w2.alloc (.map #[] 0)) := below_alloc q2 _
 have n1 := m1.move (w' := w2.alloc (.map #[] 0)) (Below.heap_alloc _ _ _ (by omega))
 rw [z2] at m2
 generalize hw3 : w2.alloc (.map #[] 0) = w3 at m2 b2 q3 n1 ⊢
 have z3 : w3.heap.size = w.heap.size + 1 + 1 + 1 := by rw [← hw3]; simp [z2]
 have m3 := MapIs.made (c := Value.int .i64) w3 Try.prog 3
 have b3 := blk_alloc b2 (.map #[] 0)
 have q4 : Below w.heap.size w (w3.alloc (.map #[] 0)) := below_alloc q3 _
 have n2 := n1.move (w' := w3.alloc (.map #[] 0)) (Below.heap_alloc _ _ _ (by omega))
 have n3 := m2.move (w' := w3.alloc (.map #[] 0)) (Below.heap_alloc _ _ _ (by omega))
 rw [z3] at m3
 generalize hw4 : w3.alloc (.map #[] 0) = w4 at m3 b3 q4 n2 n3 ⊢
 have z4 : w4.heap.size = w.heap.size + 1 + 1 + 1 + 1 := by rw [← hw4]; simp [z3]
 have bs := blk_new w4 (.cells (svA (w.heap.size + 1) (w.heap.size + 1 + 1) (w.heap.size + 1 + 1 + 1)) 117)
 rw [z4] at bs
 have mv : ∀ q, q < w4.heap.size → (w4.alloc (.cells (svA (w.heap.size + 1) (w.heap.size + 1 + 1) (w.heap.size + 1 + 1 + 1)) 117)).heap[q]? = w4.heap[q]? := fun q hq => Below.heap_alloc _ _ _ hq
 refine ⟨⟨⟨⟨0, Nat.le_refl _, by show MapIs _ _ _ _ _ _ (aV (fun _ => []) (fun _ => .slice none 0 0)); rw [ha]; exact n2.move (mv _ (by omega))⟩, ⟨0, Nat.le_refl _, by show MapIs _ _ _ _ _ _ (iV (fun _ => none)); rw [hi]; exact n3.move (mv _ (by omega))⟩, fun x => RowIs.nil _ _ _ _ _, fun x y g hx => (by cases hx), fun x => Nat.le_refl _, fun x _ => rfl, by omega, by omega, by omega⟩, ⟨0, Nat.le_refl _, by show MapIs _ _ _ _ _ _ (iV (fun _ => none)); rw [hi]; exact m3.move (mv _ (by omega))⟩, by omega, by omega, by omega⟩, (mv _ (by omega)).trans b3, bs, below_alloc q4 _, Nat.le_refl _⟩
def RPost (w : World) (n : Nat) (s : Sv) (r : Ending) (w' : World) : Prop := ∃ ma ms mm sl, r = .returned (.agg (svA ma ms mm)) ∧ SvIs w' w.heap.size ma ms mm n s sl ∧ Below w.heap.size w w'
set_option maxHeartbeats 4000000 in
set_option maxRecDepth 100000 in
theorem vread_any (A1 : Option Addr) (c1 : Nat) (l : List Ev7) (hn : l.length ≤ 200000) (hrd : RdOk l) (w : World) (hin : ∀ (i : Nat) e, l[i]? = some e → EvIn w A1 i e) (hwf : ∀ e ∈ l, wf7 e) :
  Calls Try.prog 70 #[.slice A1 l.length c1] w (RPost w (2 * l.length) (readS l l.length).1) := by
 have hu0 := Try.underlying117
 have hu1 := Try.underlying60
 have hu2 := Try.underlying142
 have hmm := @run_makeMap Try.prog
 have HIN := Aside0.mk hin
 have HWF := Aside0.mk hwf
 have HN := Aside0.mk hn
 have HRD := Aside0.mk hrd
 clear hin hwf hn hrd
 go_enter Try.func70, Try.ntmps70
 go_wp2
 have HJ0 := Aside0.mk (Hj.start w)
 obtain ⟨sb, hsb⟩ : ∃ sb, sb = w.heap.size + 1 + 1 + 1 + 1 := ⟨_, rfl⟩
 obtain ⟨ma, hma⟩ : ∃ ma, ma = w.heap.size + 1 := ⟨_, rfl⟩
 obtain ⟨ms, hms⟩ : ∃ ms, ms = w.heap.size + 1 + 1 := ⟨_, rfl⟩
 obtain ⟨mm, hmmm⟩ : ∃ mm, mm = w.heap.size + 1 + 1 + 1 := ⟨_, rfl⟩
 rw [← hsb, ← hmmm, ← hms, ← hma] at HJ0
 rw [← hsb, ← hmmm, ← hms, ← hma]
 clear hsb hma hms hmmm
 have HJ1 : Aside0 (∃ sl, Hj w _ w.heap.size sb ma ms mm 0 sv0 sl) := ⟨_, HJ0.out⟩
 go_loopw [4, 15] (fun v4 v15 wr => ∃ k : Nat, k ≤ l.length ∧ v15 = .int .i64 k ∧ v4 = .int .i64 (readS l k).2 ∧ Aside0 (∃ sl, Hj w wr w.heap.size sb ma ms mm (2 * k) (readS l k).1 sl)) (fun _ v15 _ => l.length - (intOf v15).toNat)
 case atStart => exact ⟨0, Nat.zero_le _, rfl, rfl, HJ1⟩
 case round =>
  clear HJ0 HJ1
  obtain ⟨k, hk, rfl, rfl, HI⟩ := hrel
  rcases Nat.lt_or_ge k l.length with hlt | hge
  ·have p0 : (0 : Int) ≤ (k : Int) := by omega
   have q0 : (k : Int) < (l.length : Int) := by omega
   obtain ⟨e, he⟩ : ∃ e, l[k]? = some e := ⟨_, List.getElem?_eq_getElem hlt⟩
   have HW := Aside0.mk (HWF.out e (List.mem_of_getElem? he))
   have HNE := Aside0.mk (fun h5 h6 => HRD.out k e he h5 h6)
   obtain ⟨sl, hsl⟩ := HI.out
   obtain ⟨ad, rfl, c0, c1', c2, c3, c4, c5, c6⟩ := (HIN.out k e he).below hsl.bel
   have hnn : wrap64 ((k : Int) + 1) = ((k + 1 : Nat) : Int) := by have := HN.out; unfold wrap64; omega
   have HST := Aside0.mk (readS_succ he)
   obtain ⟨s, clk, hsc⟩ : ∃ s clk, readS l k = (s, clk) := ⟨_, _, rfl⟩
   rw [hsc] at hsl HST HNE ⊢
   simp only at hsl HNE ⊢
   have HKN := Aside0.mk (show 2 * k ≤ 900000 by have := HN.out; omega)
   replace q0 := eq_true q0
   replace p0 := eq_true p0
   clear he hsc HI
   have HK0 := Aside0.mk (Hk.start hsl e)
   clear hsl
   obtain ⟨eb, heb⟩ : ∃ eb, eb = wr.heap.size := ⟨_, rfl⟩
   go_upto_region 6 with (fail)
   rw [← heb] at HK0 ⊢
   refine gen_world' (fun W => Hk w W w.heap.size sb ma ms mm (2 * k) s sl e eb) (by exact HK0.out) fun w3 Hw3 => ?_
   have HK3 := Aside0.mk Hw3
   clear Hw3 HK0 c0 c1' c2 c3 c4 c5 c6 heb
   have hcs := fun z => blk_cell HK3.out.hj.sb_ z
   have hce := fun z => blk_cell HK3.out.eb_ z
   have hls := blk_lt HK3.out.hj.sb_
   have hle := blk_lt HK3.out.eb_
   rcases read_cases e with hz | hz | hz | hz | hz | hz | hz | hz
   ·have hk1 := hz; clear hz
    have HF := Aside0.mk (show stepS (s, clk) k e = (s, e.t) by unfold stepS; rw [if_pos hk1])
    have k1 : (e.k == 1) = true := beq_iff_eq.2 (hk1)
    have k2 : (e.k == 2) = false := beq_eq_false_iff_ne.2 (by omega)
    have k3 : (e.k == 3) = false := beq_eq_false_iff_ne.2 (by omega)
    have k5 : (e.k == 5) = false := beq_eq_false_iff_ne.2 (by omega)
    clear hk1
    go_wp2
    go_roundw
    case rel => exact ⟨k + 1, Nat.succ_le_of_lt hlt, by first | rw [hnn] | simp, by rw [HST.out, HF.out], ⟨by rw [HST.out, HF.out]; exact ⟨sl, HK3.out.hj.up (by omega)⟩⟩⟩
    case measure => first | (rw [hnn]; simp [intOf]; omega) | (simp [intOf]; omega)
   ·obtain ⟨hk1, ho⟩ := hz
    have HF := Aside0.mk (show stepS (s, clk) k e = ({ s with adv := updA s.adv e.wk (s.adv e.wk ++ [⟨(k : Int), clk, false⟩]) }, clk) by unfold stepS; rw [if_neg (by omega), if_pos ⟨hk1, ho⟩])
    have k1 : (e.k == 1) = false := beq_eq_false_iff_ne.2 (by omega)
    have k2 : (e.k == 2) = true := beq_iff_eq.2 (hk1)
    have k3 : (e.k == 3) = false := beq_eq_false_iff_ne.2 (by omega)
    have k5 : (e.k == 5) = false := beq_eq_false_iff_ne.2 (by omega)
    have o6 : (e.op == 6) = true := beq_iff_eq.2 (ho)
    clear hk1 ho
    go_upto_region 9 with (fail)
    refine start_ (n := 15) (S := (fun w' => (∀ z, w'.cell? ⟨sb, z, none⟩ = (svA ma ms mm)[z]?) ∧ (∀ z, w'.cell? ⟨eb, z, none⟩ = (e.cells)[z]?) ∧ (Instr.lookup 114 (.map (some ma)) (.int .i64 e.wk) false).run Try.prog w' = .ok (sl e.wk) w')) (ds := [14]) #[ff,ff,ff,ff,ff,ff,ff,ff,ff,ff,ff,ff,ff,ff,ff] (by kernel_rfl) rfl rfl ⟨HK3.out.drew.cells.1, HK3.out.drew.cells.2, HK3.out.drew.hj.sv.x.lookA HW.out.2⟩ (fun hHeld => ?_)
    refine with_tabW vrR.tab9 vrR.bits9 (fun HT_ HW_ => ?_)
    have HK4 := Aside0.mk HK3.out.drew
    generalize w3.drew = w4 at HK4 hHeld ⊢
    clear hcs hce hls hle
    have hls := blk_lt HK4.out.hj.sb_
    have hle := blk_lt HK4.out.eb_
    refine pure_ (i := 0) (N := (some 35)) (v := ?_) (a' := ?_) #[tt,ff,ff,ff,ff,ff,ff,ff,ff,ff,ff,ff,ff,ff,ff] rfl rfl (any_of HT_.out (by kernel_rfl)) (fun _ _ _ h => h) (Or.inl ⟨by rfl, ?_⟩) ?_ ?_
    rotate_left
    ·intro w'
     go_simp
     with_reducible rfl
    rotate_left
    ·simp only [Act.put, sQ0, sQ1, sQ2, i64_w]
     rfl
    refine pure_ (i := 2) (N := (some 37)) (v := ?_) (a' := ?_) #[tt,ff,tt,ff,ff,ff,ff,ff,ff,ff,ff,ff,ff,ff,ff] rfl rfl (any_of HT_.out (by kernel_rfl)) (fun _ _ _ h => h) (Or.inl ⟨by rfl, ?_⟩) ?_ ?_
    rotate_left
    ·intro w'
     go_simp
     with_reducible rfl
    rotate_left
    ·simp only [Act.put, sQ0, sQ1, sQ2, i64_w]
     rfl
    refine pure_ (i := 4) (N := (some 39)) (v := ?_) (a' := ?_) #[tt,ff,tt,ff,tt,ff,ff,ff,ff,ff,ff,ff,ff,ff,ff] rfl rfl (any_of HT_.out (by kernel_rfl)) (fun _ _ _ h => h) (Or.inl ⟨by rfl, ?_⟩) ?_ ?_
    rotate_left
    ·intro w'
     go_simp
     with_reducible rfl
    rotate_left
    ·simp only [Act.put, sQ0, sQ1, sQ2, i64_w]
     rfl
    refine pure_ (i := 6) (N := (some 41)) (v := ?_) (a' := ?_) #[tt,ff,tt,ff,tt,ff,tt,ff,ff,ff,ff,ff,ff,ff,ff] rfl rfl (any_of HT_.out (by kernel_rfl)) (fun _ _ _ h => h) (Or.inl ⟨by rfl, ?_⟩) ?_ ?_
    rotate_left
    ·intro w'
     go_simp
     with_reducible rfl
    rotate_left
    ·simp only [Act.put, sQ0, sQ1, sQ2, i64_w]
     rfl
    refine pure_ (i := 9) (N := (some 44)) (v := ?_) (a' := ?_) #[tt,ff,tt,ff,tt,ff,tt,ff,ff,tt,ff,ff,ff,ff,ff] rfl rfl (any_of HT_.out (by kernel_rfl)) (fun _ _ _ h => h) (Or.inl ⟨by rfl, ?_⟩) ?_ ?_
    rotate_left
    ·intro w'
     go_simp
     with_reducible rfl
    rotate_left
    ·simp only [Act.put, sQ0, sQ1, sQ2, i64_w]
     rfl
    refine pure_ (i := 10) (N := (some 45)) (v := ?_) (a' := ?_) #[tt,ff,tt,ff,tt,ff,tt,ff,ff,tt,tt,ff,ff,ff,ff] rfl rfl (any_of HT_.out (by kernel_rfl)) (fun _ _ _ h => h) (Or.inl ⟨by rfl, ?_⟩) ?_ ?_
    rotate_left
    ·intro w'
     go_simp
     with_reducible rfl
    rotate_left
    ·simp only [Act.put, sQ0, sQ1, sQ2, i64_w]
     rfl
    refine pure_ (i := 11) (N := (some 46)) (v := ?_) (a' := ?_) #[tt,ff,tt,ff,tt,ff,tt,ff,ff,tt,tt,tt,ff,ff,ff] rfl rfl (any_of HT_.out (by kernel_rfl)) (fun _ _ _ h => h) (Or.inl ⟨by rfl, ?_⟩) ?_ ?_
    rotate_left
    ·intro w'
     go_simp
     with_reducible rfl
    rotate_left
    ·simp only [Act.put, sQ0, sQ1, sQ2, i64_w]
     rfl
    refine take_ (i := 1) (N := (some 36)) (v := ?_) (a' := ?_) #[tt,tt,tt,ff,tt,ff,tt,ff,ff,tt,tt,tt,ff,ff,ff] rfl rfl (take_ofW HT_.out HW_.out (by kernel_rfl)) (fun _ _ _ h => h) (Or.inl ⟨by rfl, ?_⟩) hHeld ?_ ?_
    rotate_left
    ·rintro w' ⟨s0, s1, s2⟩
     go_simp
     with_reducible rfl
    rotate_left
    ·simp only [Act.put, sQ0, sQ1, sQ2, i64_w]
     rfl
    refine take_ (i := 3) (N := (some 38)) (v := ?_) (a' := ?_) #[tt,tt,tt,tt,tt,ff,tt,ff,ff,tt,tt,tt,ff,ff,ff] rfl rfl (take_ofW HT_.out HW_.out (by kernel_rfl)) (fun _ _ _ h => h) (Or.inl ⟨by rfl, ?_⟩) hHeld ?_ ?_
    rotate_left
    ·rintro w' ⟨s0, s1, s2⟩
     go_simp
     with_reducible rfl
    rotate_left
    ·simp only [Act.put, sQ0, sQ1, sQ2, i64_w]
     rfl
    refine take_ (i := 5) (N := (some 40)) (v := ?_) (a' := ?_) #[tt,tt,tt,tt,tt,tt,tt,ff,ff,tt,tt,tt,ff,ff,ff] rfl rfl (take_ofW HT_.out HW_.out (by kernel_rfl)) (fun _ _ _ h => h) (Or.inl ⟨by rfl, ?_⟩) hHeld ?_ ?_
    rotate_left
    ·rintro w' ⟨s0, s1, s2⟩
     go_simp
     with_reducible rfl
    rotate_left
    ·simp only [Act.put, sQ0, sQ1, sQ2, i64_w]
     rfl
    refine take_ (i := 7) (N := (some 42)) (v := ?_) (a' := ?_) #[tt,tt,tt,tt,tt,tt,tt,tt,ff,tt,tt,tt,ff,ff,ff] rfl rfl (take_ofW HT_.out HW_.out (by kernel_rfl)) (fun _ _ _ h => h) (Or.inl ⟨by rfl, ?_⟩) hHeld ?_ ?_
    rotate_left
    ·rintro w' ⟨s0, s1, s2⟩
     go_simp
     with_reducible rfl
    rotate_left
    ·simp only [Act.put, sQ0, sQ1, sQ2, i64_w]
     rfl
    refine take_ (i := 8) (N := (some 43)) (v := ?_) (a' := ?_) #[tt,tt,tt,tt,tt,tt,tt,tt,tt,tt,tt,tt,ff,ff,ff] rfl rfl (take_ofW HT_.out HW_.out (by kernel_rfl)) (fun _ _ _ h => h) (Or.inl ⟨by rfl, ?_⟩) hHeld ?_ ?_
    rotate_left
    ·rintro w' ⟨s0, s1, s2⟩
     go_simp
     with_reducible rfl
    rotate_left
    ·simp only [Act.put, sQ0, sQ1, sQ2, i64_w]
     rfl
    refine one_ (i := 12) (N := (some 47)) #[tt,tt,tt,tt,tt,tt,tt,tt,tt,tt,tt,tt,tt,ff,ff] rfl rfl (one_of HT_.out (by kernel_rfl)) (by decide) (fun K hK => ?_)
    refine value_ (by rfl) rfl (v := .slice (some ⟨w4.heap.size, 0, none⟩) 1 1) (w1 := w4.alloc (.cells (adA ⟨(k : Int), clk, false⟩) 142)) (by go_simp <;> rfl) ?_
    refine hK.out _ _ ⟨(HK4.out.alloc _).cells.1, (HK4.out.alloc _).cells.2, (HK4.out.alloc _).hj.sv.x.lookA HW.out.2⟩ (fun hHeld => ?_)
    clear hK K
    refine norm_ (a' := ?_) ?_ ?_
    rotate_left
    ·show Act.put _ (some 47) _ = _
     simp only [Act.put, sQ0, sQ1, sQ2, i64_w]
     rfl
    refine one_ (i := 13) (N := (some 48)) #[tt,tt,tt,tt,tt,tt,tt,tt,tt,tt,tt,tt,tt,tt,ff] rfl rfl (one_of HT_.out (by kernel_rfl)) (by decide) (fun K hK => ?_)
    refine if_wp rfl ?_
    refine RowIs.append_wp 140 24 _ _ _ Try.underlying140 ad_info rfl (by decide) rfl (HK4.out.hj.sv.x.row e.wk) ⟨(k : Int), clk, false⟩ rfl (by simp [Value.oneCell']) (by rfl) (by rfl) (by have := HK4.out.hj.sv.x.len e.wk; have := HKN.out; omega) (by decide) HK4.out.hj.bel.size ?_
    intro gg cap6 w6 hown hgrow hat
    have HP := Aside0.mk (HK4.out.hj.app hown hgrow hat)
    obtain ⟨z6, _, hM6, _⟩ := HP.out
    have HS6 := Aside0.mk (HK4.out.held6 HW.out.2 hgrow hM6)
    clear hown hgrow hat hM6
    refine hK.out _ _ HS6.out (fun hHeld => ?_)
    clear hK K
    refine norm_ (a' := ?_) ?_ ?_
    rotate_left
    ·show Act.put _ (some 48) _ = _
     simp only [Act.put, sQ0, sQ1, sQ2, i64_w]
     rfl
    refine last_ (i := 14) (N := none) #[tt,tt,tt,tt,tt,tt,tt,tt,tt,tt,tt,tt,tt,tt,tt] rfl rfl (one_of HT_.out (by kernel_rfl)) (by decide) (fun K hK => ?_)
    refine if_wp rfl ?_
    obtain ⟨z, hz, hM, hnext⟩ := HP.out
    refine wp_store Bk.int_inj _ _ _ 114 (by rfl) hM law3 Try.underlying114 (by unfold maxLen; have := HKN.out; omega) (y := e.wk) (keyOf_int_mk Try.underlying3 HW.out.2) (val := .slice (some ⟨gg, 0, none⟩) ((s.adv e.wk).length + 1) cap6) (by rfl) (by rfl) (by rfl) ?_
    intro w7 hm7 hg7
    have HQ := Aside0.mk (hnext w7 hm7 hg7)
    clear hm7 hg7 hM hz hnext
    refine hK.out _ _ ?_
    clear hK K
    refine done_ (done_of HT_.out (by kernel_rfl)) ?_
    clear hls hle
    go_wp2
    go_roundw
    case rel => exact ⟨k + 1, Nat.succ_le_of_lt hlt, by first | rw [hnn] | simp, by rw [HST.out, HF.out], ⟨by rw [HST.out, HF.out]; exact ⟨_, HQ.out.up (by omega)⟩⟩⟩
    case measure => first | (rw [hnn]; simp [intOf]; omega) | (simp [intOf]; omega)
   ·obtain ⟨hk1, ho⟩ := hz
    have HF := Aside0.mk (show stepS (s, clk) k e = ({ s with adv := updA s.adv e.wk (thrL (s.adv e.wk)) }, clk) by unfold stepS; rw [if_neg (by omega), if_neg (by omega), if_pos ⟨hk1, ho⟩])
    have hne := HNE.out hk1 ho
    have k1 : (e.k == 1) = false := beq_eq_false_iff_ne.2 (by omega)
    have k2 : (e.k == 2) = false := beq_eq_false_iff_ne.2 (by omega)
    have k3 : (e.k == 3) = false := beq_eq_false_iff_ne.2 (by omega)
    have k5 : (e.k == 5) = true := beq_iff_eq.2 (hk1)
    have o6 : (e.op == 6) = true := beq_iff_eq.2 (ho)
    clear hk1 ho
    obtain ⟨m, hm⟩ : ∃ m, (s.adv e.wk).length = m + 1 := ⟨(s.adv e.wk).length - 1, by have := List.length_pos_iff.2 hne; omega⟩
    obtain ⟨a, ha⟩ : ∃ a, (s.adv e.wk)[m]? = some a := ⟨_, List.getElem?_eq_getElem (by omega)⟩
    obtain ⟨g, cap, hv, hcap, hgl, hcell⟩ := (HK3.out.hj.sv.x.row e.wk).at_ (fun _ => rfl) ha
    rw [hm] at hv hcap
    obtain ⟨cur, hgc⟩ := (HK3.out.hj.sv.x.row e.wk).own (show (sl e.wk).ownBlock = some g by rw [hv]; rfl)
    have hfz := fun z => blk_frozen hgc z
    have hct := hcell 2 (by decide)
    have hl := HK3.out.hj.sv.x.lookA HW.out.2
    rw [hv] at hl
    have HQ := Aside0.mk (HK3.out.hj.thr hm hv)
    have hmm1 := thr_wrap (HK3.out.hj.sv.x.len e.wk) HKN.out hm
    have hm0 : (0 : Int) ≤ (m : Int) := Int.natCast_nonneg m
    clear hne hm ha hv hcell hgc hcap
    go_wp2
    go_roundw
    case rel => exact ⟨k + 1, Nat.succ_le_of_lt hlt, by first | rw [hnn] | simp, by rw [HST.out, HF.out], ⟨by rw [HST.out, HF.out]; exact ⟨sl, HQ.out.up (by omega)⟩⟩⟩
    case measure => first | (rw [hnn]; simp [intOf]; omega) | (simp [intOf]; omega)
   ·obtain ⟨hk1, ho⟩ := hz
    have HF := Aside0.mk (show stepS (s, clk) k e = (backS s k e, clk) by unfold stepS; rw [if_neg (by omega), if_neg (by omega), if_neg (fun q => ho q.2), if_pos hk1])
    have k1 : (e.k == 1) = false := beq_eq_false_iff_ne.2 (by omega)
    have k2 : (e.k == 2) = false := beq_eq_false_iff_ne.2 (by omega)
    have k3 : (e.k == 3) = false := beq_eq_false_iff_ne.2 (by omega)
    have k5 : (e.k == 5) = true := beq_iff_eq.2 (hk1)
    have o6 : (e.op == 6) = false := beq_eq_false_iff_ne.2 (ho)
    clear hk1 ho
    have hl := HK3.out.hj.sv.lookM HW.out.2
    by_cases hx0 : 0 ≤ wrap64 ((s.mak e.wk).getD 0 - 1)
    ·have g0 : decide (wrap64 ((s.mak e.wk).getD 0 - 1) ≥ 0) = true := decide_eq_true hx0
     have HB := Aside0.mk (show backS s k e = { s with snc := updI s.snc (wrap64 ((s.mak e.wk).getD 0 - 1)) k, mak := delI s.mak e.wk } by unfold backS; rw [if_pos hx0])
     clear hx0
     obtain ⟨y, hy, hY⟩ := HK3.out.hj.sv.x.ms_
     have HM0 := Aside0.mk (And.intro hy hY)
     clear hy hY
     go_upto_region 17 with (first | ((with_reducible refine gate_upon ?_); go_loud (refine upon_put Bk.int_inj HM0.out.2 law3 Try.underlying115 (by unfold maxLen; have := HKN.out; have := HM0.out.1; omega) (y := wrap64 ((s.mak e.wk).getD 0 - 1)) (keyOf_int_mk Try.underlying3 (wf_wrap _)) ?_; intro w5 hm hg; rw [iV_upd] at hm; have HP := Aside0.mk (show Hk w w5 w.heap.size sb ma ms mm (2 * k + 1) { s with snc := updI s.snc (wrap64 ((s.mak e.wk).getD 0 - 1)) k } sl e eb from ⟨HK3.out.hj.putS hm (by have := HM0.out.1; split <;> omega) (by omega) hg, blk_grown HK3.out.eb_ hg (fun q => (HK3.out.hj.sv.far HK3.out.eb_).2.1 (Option.some.inj q))⟩); clear hm hg hcs hce hls hle; have hcs := fun z => blk_cell HP.out.hj.sb_ z; have hce := fun z => blk_cell HP.out.eb_ z; have hls := blk_lt HP.out.hj.sb_; have hle := blk_lt HP.out.eb_)) | go_in)
     obtain ⟨y, hy, hY⟩ := HP.out.hj.sv.mm_
     have HM := Aside0.mk (And.intro hy hY)
     clear hy hY
     go_wp2_with (first | (at_delete; refine wpl_drop Bk.int_inj rfl _ _ 115 rfl HM.out.2 law3 Try.underlying115 (y := e.wk) (keyOf_int_mk Try.underlying3 HW.out.2) rfl rfl ?_; intro w6 hm hg; rw [iV_del] at hm; have HQ := Aside0.mk (HP.out.hj.putM (n' := 2 * (k + 1)) hm (by have := HM.out.1; split <;> omega) (by omega) hg); clear hm hg) | go_in)
     (try go_frame)
     go_roundw
     case rel => exact ⟨k + 1, Nat.succ_le_of_lt hlt, by first | rw [hnn] | simp, by rw [HST.out, HF.out], ⟨by rw [HST.out, HF.out]; exact ⟨sl, by rw [HB.out]; exact HQ.out⟩⟩⟩
     case measure => first | (rw [hnn]; simp [intOf]; omega) | (simp [intOf]; omega)
    ·have g0 : decide (wrap64 ((s.mak e.wk).getD 0 - 1) ≥ 0) = false := decide_eq_false hx0
     have HB := Aside0.mk (show backS s k e = { s with mak := delI s.mak e.wk } by unfold backS; rw [if_neg hx0])
     clear hx0
     obtain ⟨y, hy, hY⟩ := HK3.out.hj.sv.mm_
     have HM := Aside0.mk (And.intro hy hY)
     clear hy hY
     go_wp2_with (first | (at_delete; refine wpl_drop Bk.int_inj rfl _ _ 115 rfl HM.out.2 law3 Try.underlying115 (y := e.wk) (keyOf_int_mk Try.underlying3 HW.out.2) rfl rfl ?_; intro w6 hm hg; rw [iV_del] at hm; have HQ := Aside0.mk (HK3.out.hj.putM (n' := 2 * (k + 1)) hm (by have := HM.out.1; split <;> omega) (by omega) hg); clear hm hg) | go_in)
     (try go_frame)
     go_roundw
     case rel => exact ⟨k + 1, Nat.succ_le_of_lt hlt, by first | rw [hnn] | simp, by rw [HST.out, HF.out], ⟨by rw [HST.out, HF.out]; exact ⟨sl, by rw [HB.out]; exact HQ.out⟩⟩⟩
     case measure => first | (rw [hnn]; simp [intOf]; omega) | (simp [intOf]; omega)
   ·obtain ⟨hk1, ho⟩ := hz
    have HF := Aside0.mk (show stepS (s, clk) k e = (ptS s k e, clk) by unfold stepS; rw [if_neg (by omega), if_neg (by omega), if_neg (by omega), if_neg (by omega), if_pos ⟨hk1, ho⟩])
    have k1 : (e.k == 1) = false := beq_eq_false_iff_ne.2 (by omega)
    have k2 : (e.k == 2) = false := beq_eq_false_iff_ne.2 (by omega)
    have k3 : (e.k == 3) = true := beq_iff_eq.2 (hk1)
    have k5 : (e.k == 5) = false := beq_eq_false_iff_ne.2 (by omega)
    have e0 : (e.er == 0) = true := beq_iff_eq.2 (ho)
    clear hk1 ho
    have CP := Aside0.mk (fun (W : World) (h : SvIs W w.heap.size ma ms mm (2 * k) s sl) => spoint_any k e HW.out.1 HW.out.2 (by have := HKN.out; omega) h)
    go_wp2_with (first | (go_at_call 86; (with_reducible refine (CP.out _ HK3.out.hj.sv).mono ?_); rintro r w5 ⟨rfl, hS, hf⟩; have HQ := Aside0.mk (HK3.out.hj.turn hS hf); clear hS hf) | go_in)
    go_roundw
    case rel => exact ⟨k + 1, Nat.succ_le_of_lt hlt, by first | rw [hnn] | simp, by rw [HST.out, HF.out], ⟨by rw [HST.out, HF.out]; exact ⟨sl, HQ.out.up (by omega)⟩⟩⟩
    case measure => first | (rw [hnn]; simp [intOf]; omega) | (simp [intOf]; omega)
   ·obtain ⟨hk1, ho⟩ := hz
    have HF := Aside0.mk (show stepS (s, clk) k e = (s, clk) by unfold stepS; rw [if_neg (by omega), if_neg (fun q => ho q.2), if_neg (by omega), if_neg (by omega), if_neg (by omega)])
    have k1 : (e.k == 1) = false := beq_eq_false_iff_ne.2 (by omega)
    have k2 : (e.k == 2) = true := beq_iff_eq.2 (hk1)
    have k3 : (e.k == 3) = false := beq_eq_false_iff_ne.2 (by omega)
    have k5 : (e.k == 5) = false := beq_eq_false_iff_ne.2 (by omega)
    have o6 : (e.op == 6) = false := beq_eq_false_iff_ne.2 (ho)
    clear hk1 ho
    go_wp2
    go_roundw
    case rel => exact ⟨k + 1, Nat.succ_le_of_lt hlt, by first | rw [hnn] | simp, by rw [HST.out, HF.out], ⟨by rw [HST.out, HF.out]; exact ⟨sl, HK3.out.hj.up (by omega)⟩⟩⟩
    case measure => first | (rw [hnn]; simp [intOf]; omega) | (simp [intOf]; omega)
   ·obtain ⟨hk1, ho⟩ := hz
    have HF := Aside0.mk (show stepS (s, clk) k e = (s, clk) by unfold stepS; rw [if_neg (by omega), if_neg (by omega), if_neg (by omega), if_neg (by omega), if_neg (fun q => ho q.2)])
    have k1 : (e.k == 1) = false := beq_eq_false_iff_ne.2 (by omega)
    have k2 : (e.k == 2) = false := beq_eq_false_iff_ne.2 (by omega)
    have k3 : (e.k == 3) = true := beq_iff_eq.2 (hk1)
    have k5 : (e.k == 5) = false := beq_eq_false_iff_ne.2 (by omega)
    have e0 : (e.er == 0) = false := beq_eq_false_iff_ne.2 (ho)
    clear hk1 ho
    go_wp2
    go_roundw
    case rel => exact ⟨k + 1, Nat.succ_le_of_lt hlt, by first | rw [hnn] | simp, by rw [HST.out, HF.out], ⟨by rw [HST.out, HF.out]; exact ⟨sl, HK3.out.hj.up (by omega)⟩⟩⟩
    case measure => first | (rw [hnn]; simp [intOf]; omega) | (simp [intOf]; omega)
   ·obtain ⟨hk1, hk2, hk3, hk5⟩ := hz
    have HF := Aside0.mk (show stepS (s, clk) k e = (s, clk) by unfold stepS; rw [if_neg (by omega), if_neg (by omega), if_neg (by omega), if_neg (by omega), if_neg (by omega)])
    have k1 : (e.k == 1) = false := beq_eq_false_iff_ne.2 (by omega)
    have k2 : (e.k == 2) = false := beq_eq_false_iff_ne.2 (by omega)
    have k3 : (e.k == 3) = false := beq_eq_false_iff_ne.2 (by omega)
    have k5 : (e.k == 5) = false := beq_eq_false_iff_ne.2 (by omega)
    clear hk1 hk2 hk3 hk5
    go_wp2
    go_roundw
    case rel => exact ⟨k + 1, Nat.succ_le_of_lt hlt, by first | rw [hnn] | simp, by rw [HST.out, HF.out], ⟨by rw [HST.out, HF.out]; exact ⟨sl, HK3.out.hj.up (by omega)⟩⟩⟩
    case measure => first | (rw [hnn]; simp [intOf]; omega) | (simp [intOf]; omega)
  ·have q0 : ((k : Int) < (l.length : Int)) = False := eq_false (by omega)
   obtain ⟨sl, hsl⟩ := HI.out
   have HE := Aside0.mk (show k = l.length by omega)
   have hcs := fun z => blk_cell hsl.sb_ z
   have hcr := fun z => blk_cell hsl.rb_ z
   have hls := blk_lt hsl.sb_
   have hlr := blk_lt hsl.rb_
   have hfr := fun z => blk_frozen hsl.rb_ z
   have e0 := blk_cell (blk_set hsl.rb_ 0 (.map (some ma))) 0
   have e1 := blk_cell (blk_set (blk_set hsl.rb_ 0 (.map (some ma))) 1 (.map (some ms))) 1
   have e2 := blk_cell (blk_set (blk_set (blk_set hsl.rb_ 0 (.map (some ma))) 1 (.map (some ms))) 2 (.map (some mm))) 2
   have HJe := Aside0.mk hsl
   clear hk hge hsl HI
   go_wp2
   exact bodyPost_ret (v := .agg (svA ma ms mm)) (by simp [results, Try.results70, go_sem, hlr, hfr, e0, e1, e2]) rfl ⟨ma, ms, mm, sl, rfl, by rw [← HE.out]; exact HJe.out.end_⟩
end Go.Proofs.Ythljanmfanppdaa.Vd
end
section
namespace Go.Proofs.Ythljanmfanppdaa.Vd
open Go.RowKit Go.Proofs.Ythljanmfanppdaa.Bk
set_option linter.unusedVariables false
set_option linter.unusedSimpArgs false
theorem adv_thr (l : List Ev7) : ∀ w a, a ∈ (readS l l.length).1.adv w → a.thr = true → ∃ e ∈ l, e.k = 5 ∧ e.op = 6 := by
 induction l using snoc_ind with
 | h0 => intro w a h; cases h
 | h1 l e ih =>
  intro w a h ht
  rw [readS_snoc] at h
  by_cases h5 : e.k = 5 ∧ e.op = 6
  ·exact ⟨e, by simp, h5⟩
  ·have hold : a ∈ (readS l l.length).1.adv w → ∃ e' ∈ l ++ [e], e'.k = 5 ∧ e'.op = 6 := fun q => by
    obtain ⟨e', h1, h2⟩ := ih w a q ht
    exact ⟨e', List.mem_append_left _ h1, h2⟩
   unfold stepS at h
   split at h
   ·exact hold h
   ·split at h
    ·have h : a ∈ updA (readS l l.length).1.adv e.wk ((readS l l.length).1.adv e.wk ++ [⟨l.length, (readS l l.length).2, false⟩]) w := h
     unfold updA at h
     split at h
     ·rename_i q
      rcases List.mem_append.1 h with h1 | h1
      ·exact hold (q ▸ h1)
      ·rw [List.mem_singleton.1 h1] at ht
       cases ht
     ·exact hold h
    ·by_cases k5 : e.k = 5
     ·rw [if_pos k5] at h
      exact hold h
     ·rw [if_neg k5] at h
      split at h
      ·have h : a ∈ (ptS (readS l l.length).1 l.length e).adv w := h
       rw [ptS_adv] at h
       exact hold h
      ·exact hold h
theorem goneV_zero {n : Int} {s : Sv} {x y : Int} (hn : 1 ≤ n) (h : goneV n s x y = true) : ∃ w a, a ∈ s.adv w ∧ a.thr = true := by
 unfold goneV at h
 rw [List.all_eq_true] at h
 have h1 := h 0 (List.mem_range.2 (by omega))
 rw [List.any_eq_true] at h1
 obtain ⟨a, h2, h3⟩ := h1
 simp only [Bool.and_eq_true] at h3
 exact ⟨_, a, h2, h3.1⟩
theorem lateL_mem {c : Cf} {F : SM} {s : Sv} {n : Nat} {x : Int} (h : x ∈ lateL c F s n) : ∃ i : Nat, i < n ∧ x = (i : Int) ∧ lateB c F s x = true := by
 unfold lateL at h
 obtain ⟨i, h1, rfl⟩ := List.mem_map.1 h
 obtain ⟨h2, h3⟩ := List.mem_filter.1 h1
 exact ⟨i, List.mem_range.1 h2, rfl, h3⟩
theorem lateV_err {c : Cf} {l : List Ev7} (h : (judgeV c l).2 ≠ 0) : lateV c l = [] := if_pos h
theorem late_none {c : Cf} {l : List Ev7} (hc : 1 ≤ c.c0) (h : ∀ e ∈ l, ¬ (e.k = 5 ∧ e.op = 6)) : lateV c l = [] := by
 unfold lateV
 split
 ·rfl
 ·refine List.eq_nil_iff_forall_not_mem.2 fun x hx => ?_
  obtain ⟨i, _, _, h1⟩ := lateL_mem hx
  unfold lateB at h1
  simp only [Bool.and_eq_true] at h1
  obtain ⟨w, a, h2, h3⟩ := goneV_zero hc h1.2.2.2
  obtain ⟨e, h4, h5⟩ := adv_thr l w a h2 h3
  exact h e h4 h5
theorem judge_none {c : Cf} {l : List Ev7} (hc : cfCode c = 0) (h : goV c vb0 l = none) : judgeV c l = (-1, 0) := by
 unfold judgeV
 rw [if_neg (by omega), h]
 rfl
end Go.Proofs.Ythljanmfanppdaa.Vd
end
section
namespace Go.Proofs.Ythljanmfanppdaa.Vd
open Go.RowKit Go.Maps Go.Proofs.YthljanmfanppdaaW.PrintWords Go.Proofs.YthljanmfanppdaaW.PrintLast Go.Proofs.YthljanmfanppdaaW.PrintMore Go.Proofs.Ythljanmfanppdaa.Mp Go.Proofs.Ythljanmfanppdaa.Bk
set_option linter.unusedVariables false
set_option linter.unusedSimpArgs false
abbrev inA (x : Int) : Array Value := #[.int .i64 x]
theorem in_info : (Try.prog.info? 3).map (fun i => (i.zero, i.size, i.bytes)) = some (some (.int .i64 0), 1, 8) := by kernel_rfl
section
variable {w W W1 : World} {B B' q g m wm ma ms mm n n' k sb : Nat} {c : Cf} {b : Vb} {s : Sv} {sl : Int → Value} {vo : Value} {o : List Int}
theorem VbIs.moveC (h : VbIs W B q g m wm n c b) (hb : ∀ z, z < W.heap.size → (z = q ∨ vbS g m wm z) → W1.heap[z]? = W.heap[z]?) : VbIs W1 B q g m wm n c b := by
 obtain ⟨s, hs, hB⟩ := h.book
 obtain ⟨z, hz, hM⟩ := h.mw
 exact ⟨(hb q (blk_lt h.blk) (.inl rfl)).trans h.blk, ⟨s, hs, hB.move (hb g hB.glt (.inr (.inl rfl))) (hb m hB.mlt (.inr (.inr (.inl rfl))))⟩, ⟨z, hz, hM.move (hb wm hM.lt (.inr (.inr (.inr rfl))))⟩, h.hq, h.hg, h.hm, h.hw, h.mne⟩
theorem SvIs.base (h : SvIs W B' ma ms mm n s sl) (hB : B ≤ B') : SvIs W B ma ms mm n s sl := by
 refine ⟨⟨h.x.ma_, h.x.ms_, fun x => ?_, h.x.own, h.x.len, h.x.nil_, h.x.d1, Nat.le_trans hB h.x.ha, Nat.le_trans hB h.x.hs⟩, h.mm_, h.d2, h.d3, Nat.le_trans hB h.hm⟩
 have r := h.x.row x
 refine ⟨r.1, ?_⟩
 rcases r.2 with hn | ⟨g, cap, cur, e, hbase, rest⟩
 ·exact .inl hn
 ·exact .inr ⟨g, cap, cur, e, Nat.le_trans hB hbase, rest⟩
theorem SvIs.moveC (h : SvIs W B ma ms mm n s sl) (hb : ∀ z, z < W.heap.size → (z = ma ∨ z = ms ∨ z = mm ∨ ∃ cs, W.heap[z]? = some (.cells cs 142 (0, 0))) → W1.heap[z]? = W.heap[z]?) : SvIs W1 B ma ms mm n s sl := by
 obtain ⟨z, hz, hM⟩ := h.mm_
 exact ⟨h.x.move (fun z hz hc => hb z hz (by rcases hc with e | e | e; exact .inl e; exact .inr (.inl e); exact .inr (.inr (.inr e)))), ⟨z, hz, hM.move (hb mm hM.lt (.inr (.inr (.inl rfl))))⟩, h.d2, h.d3, h.hm⟩
structure Mj (w W : World) (q g m wm k : Nat) (c : Cf) (b : Vb) : Prop where
 be : VbIs W w.heap.size q g m wm k c b
 cb_ : W.heap[w.heap.size]? = some (.cells c.cells 36 (0, 0))
 bel : Below w.heap.size w W
theorem Mj.step (h : Mj w W q g m wm k c b) (hb : Below W.heap.size W W1) : Mj w W1 q g m wm k c b := ⟨h.be.below hb, blk_below h.cb_ hb, below_step h.bel hb⟩
theorem Mj.alloc (h : Mj w W q g m wm k c b) (o : Obj) : Mj w (W.alloc o) q g m wm k c b := h.step (below_alloc (Below.refl _ _) o)
theorem Mj.hear (h : Mj w W q g m wm k c b) (e : Ev7) (he : wf7 e) (hk : k + 1 ≤ 1000000) : Calls Try.prog 51 #[pA q, .agg e.cells] W fun r W' => r = .returned (.int .i64 (hearV c b e).2) ∧ Mj w W' q g m wm (k + 1) c (hearV c b e).1 :=
 (vhear_any e he.1 he.2 hk h.be).mono fun r W' ⟨h1, h2, h3⟩ => ⟨h1, h2, h3.blk h.cb_ (h.be.far h.cb_ (by decide)), h.bel.trans (h.be.fr h.bel.size h3)⟩
structure Kj (w W : World) (q g m wm k : Nat) (c : Cf) (b : Vb) (ma ms mm n : Nat) (s : Sv) (sl : Int → Value) (sb : Nat) (vo : Value) (o : List Int) : Prop where
 mj : Mj w W q g m wm k c b
 sv : SvIs W w.heap.size ma ms mm n s sl
 sb_ : W.heap[sb]? = some (.cells (svA ma ms mm) 117 (0, 0))
 ro : RowIs W w.heap.size 3 1 inA vo o
theorem Kj.step (h : Kj w W q g m wm k c b ma ms mm n s sl sb vo o) (hb : Below W.heap.size W W1) : Kj w W1 q g m wm k c b ma ms mm n s sl sb vo o := ⟨h.mj.step hb, h.sv.below hb, blk_below h.sb_ hb, h.ro.below hb⟩
theorem Kj.alloc (h : Kj w W q g m wm k c b ma ms mm n s sl sb vo o) (ob : Obj) : Kj w (W.alloc ob) q g m wm k c b ma ms mm n s sl sb vo o := h.step (below_alloc (Below.refl _ _) ob)
theorem Kj.app {vo' : Value} {o' : List Int} (h : Kj w W q g m wm k c b ma ms mm n s sl sb vo o) (hr : RowIs W1 w.heap.size 3 1 inA vo' o') (hg : W.grownBy W1 vo.ownBlock) : Kj w W1 q g m wm k c b ma ms mm n s sl sb vo' o' := by
 have ne : ∀ z cs t, W.heap[z]? = some (.cells cs t (0, 0)) → t ≠ 3 → some z ≠ vo.ownBlock := fun z cs t hz ht e => by
  obtain ⟨cur, hc⟩ := h.ro.own e.symm
  exact types_ne hz hc ht rfl
 have nm : ∀ z, (∃ es cl, W.heap[z]? = some (.map es cl)) → some z ≠ vo.ownBlock := fun z ⟨_, _, hz⟩ e => by
  obtain ⟨cur, hc⟩ := h.ro.own e.symm
  exact map_ne hc hz rfl
 obtain ⟨_, hgb⟩ := h.mj.be.bkb
 refine ⟨⟨h.mj.be.moveC fun z hz hc => hg.block z hz ?_, blk_grown h.mj.cb_ hg (ne _ _ _ h.mj.cb_ (by decide)), h.mj.bel.grown hg h.mj.bel.size (fun z e => (h.ro.low e).1)⟩, h.sv.moveC fun z hz hc => hg.block z hz ?_, blk_grown h.sb_ hg (ne _ _ _ h.sb_ (by decide)), hr⟩
 ·rcases hc with rfl | rfl | rfl | rfl
  ·exact ne _ _ _ h.mj.be.blk (by decide)
  ·exact ne _ _ _ hgb (by decide)
  ·exact nm _ h.mj.be.mapM
  ·exact nm _ h.mj.be.mapW
 ·rcases hc with rfl | rfl | rfl | ⟨cs, hc⟩
  ·exact nm _ h.sv.x.mapA
  ·exact nm _ h.sv.x.mapS
  ·exact nm _ h.sv.mapM
  ·exact ne _ _ _ hc (by decide)
theorem Kj.state (h : Kj w W q g m wm k c b ma ms mm n s sl sb vo o) (x : Int) (hx : (Lit.int .i64 x).wf = true) : Calls Try.prog 37 #[pA g, .int .i64 x] W fun r W' => r = .returned (stV (b.F.at_ x)) ∧ Kj w W' q g m wm k c b ma ms mm n s sl sb vo o := by
 obtain ⟨s', hs, hB⟩ := h.mj.be.book
 exact (state_any x hx W hB).mono fun r W' ⟨h1, h2⟩ => ⟨h1, h.step h2⟩
end
theorem in_flat (o : List Int) : (o.flatMap fun x => (inA x).toList) = o.map (Value.int .i64) := by
 induction o with
 | nil => rfl
 | cons x o ih => rw [List.flatMap_cons, ih]; rfl
theorem ints_R {W : World} {B : Nat} {v : Value} {o : List Int} (h : RowIs W B 3 1 inA v o) : Kd.R (Kd.int .i64) 3 W B (fun _ => True) v o := by
 unfold RowIs at h
 rw [in_flat] at h
 exact Kd.R_of_own (enc := Value.int .i64) (by simpa [encs] using h) (fun _ _ => trivial)
theorem lateL_succ (c : Cf) (F : SM) (s : Sv) (n : Nat) : lateL c F s (n + 1) = if lateB c F s (n : Int) = true then lateL c F s n ++ [(n : Int)] else lateL c F s n := by
 unfold lateL
 rw [List.range_succ, List.filter_append, List.map_append]
 by_cases h : lateB c F s (n : Int) = true
 ·rw [if_pos h]; simp [List.filter_cons, h]
 ·rw [if_neg h]; simp [List.filter_cons, h]
theorem lateL_len (c : Cf) (F : SM) (s : Sv) : ∀ n, (lateL c F s n).length ≤ n
 | 0 => Nat.le_refl _
 | n + 1 => by
  have := lateL_len c F s n
  rw [lateL_succ]
  split
  ·rw [List.length_append, List.length_singleton]; omega
  ·omega
def LPost (w : World) (o : List Int) (r : Ending) (w' : World) : Prop := ∃ v, r = .returned v ∧ RowIs w' w.heap.size 3 1 inA v o ∧ Below w.heap.size w w'
theorem cf_workers {c : Cf} (h : cfCode c = 0) : 1 ≤ c.c0 ∧ c.c0 ≤ 64 := by
 have h1 := PureLk.cfBad_ok _ _ _ h 0 (by omega)
 have h2 : Kw.cfLeast 0 ≤ c.c0 ∧ c.c0 ≤ 64 := h1
 have h3 : Kw.cfLeast 0 = 1 := by decide
 omega
theorem cf_conns' {c : Cf} (h : cfCode c = 0) : 0 ≤ c.c7 ∧ c.c7 ≤ 256 := by
 have h1 := PureLk.cfBad_ok _ _ _ h 7 (by omega)
 have h2 : Kw.cfLeast 7 ≤ c.c7 ∧ c.c7 ≤ 256 := h1
 have h3 : Kw.cfLeast 7 = 0 := by decide
 omega
set_option maxHeartbeats 4000000 in
set_option maxRecDepth 100000 in
theorem vlate_err (A1 : Option Addr) (c1 : Nat) (c : Cf) (l : List Ev7) (hn : l.length ≤ 200000) (he : (judgeV c l).2 ≠ 0) (w : World) (hin : ∀ (i : Nat) e, l[i]? = some e → EvIn w A1 i e) (hwf : ∀ e ∈ l, wf7 e) :
  Calls Try.prog 48 #[.slice A1 l.length c1, .agg c.cells] w (LPost w (lateV c l)) := by
 have HL := Aside0.mk (lateV_err he)
 have hu := Try.underlying36
 have CJ := Aside0.mk (fun (W : World) (hb : Below w.heap.size w W) => vjudge_any A1 c1 c l hn W (fun i e he => (hin i e he).below hb) hwf)
 obtain ⟨ji, jc, hj⟩ : ∃ ji jc, judgeV c l = (ji, jc) := ⟨_, _, rfl⟩
 rw [hj] at CJ he
 have g0 : (jc != 0) = true := bne_iff_ne.2 he
 have HB := Aside0.mk (below_alloc (Below.refl w.heap.size w) (.cells c.cells 36))
 clear hj he hin hwf hn
 go_enter Try.func48, Try.ntmps48
 go_wp2_with (first | (go_at_call 46; (with_reducible refine (CJ.out _ HB.out).mono ?_); rintro r w2 ⟨rfl, hb⟩; have n0 := Aside0.mk (below_step HB.out hb); clear hb) | go_in)
 go_ret
 exact ⟨_, rfl, by rw [HL.out]; exact RowIs.nil _ _ _ _ _, n0.out⟩
set_option maxHeartbeats 20000000 in
set_option maxRecDepth 100000 in
theorem vlate_ok (A1 : Option Addr) (c1 : Nat) (c : Cf) (hc0 : cfCode c = 0) (l : List Ev7) (hn : l.length ≤ 200000) (hg : goV c vb0 l = none) (w : World) (hin : ∀ (i : Nat) e, l[i]? = some e → EvIn w A1 i e) (hwf : ∀ e ∈ l, wf7 e) :
  Calls Try.prog 48 #[.slice A1 l.length c1, .agg c.cells] w (LPost w (lateV c l)) := by
 have hu0 := Try.underlying36
 have hu1 := Try.underlying60
 have hu2 := Try.underlying56
 have hu3 := Try.underlying117
 have hu4 := Try.underlying89
 have CJ := Aside0.mk (fun (W : World) (hb : Below w.heap.size w W) => vjudge_any A1 c1 c l hn W (fun i e he => (hin i e he).below hb) hwf)
 have HLV := Aside0.mk (show lateV c l = lateL c (benchV c vb0 l).F (readS l l.length).1 c.c7.toNat by unfold lateV; rw [judge_none hc0 hg]; exact if_neg (fun q => q rfl))
 have CR := Aside0.mk (fun (W : World) (hb : Below w.heap.size w W) => vread_any A1 c1 l hn (rd_ok hg) W (fun i e he => (hin i e he).below hb) hwf)
 rw [judge_none hc0 hg] at CJ
 have CN := Aside0.mk (fun W => vnew_any c W)
 rw [hc0] at CN
 have HIN := Aside0.mk hin
 have HWF := Aside0.mk hwf
 have HN := Aside0.mk hn
 have HCW := Aside0.mk (cf_workers hc0)
 have HCC := Aside0.mk (cf_conns' hc0)
 have HB := Aside0.mk (And.intro (below_alloc (Below.refl w.heap.size w) (.cells c.cells 36)) (blk_new w (.cells c.cells 36)))
 clear hin hwf hn hg hc0
 go_enter Try.func48, Try.ntmps48
 have hcc := fun z => blk_cell HB.out.2 z
 have hlc := blk_lt HB.out.2
 go_wp2_with (first | (go_at_call 46; (with_reducible refine (CJ.out _ HB.out.1).mono ?_); rintro r w2 ⟨rfl, hb⟩; have n0 := Aside0.mk (And.intro (below_step HB.out.1 hb) (blk_below HB.out.2 hb)); clear hb HB hcc hlc; have HB := n0; clear n0; have hcc := fun z => blk_cell HB.out.2 z; have hlc := blk_lt HB.out.2) | (go_at_call 50; (with_reducible refine (CN.out _).mono ?_); rintro r w3 (⟨h0, _⟩ | ⟨_, q, g, m, wm, rfl, hbe, hb⟩); (exact absurd rfl h0); have HM0 := Aside0.mk (show Mj w w3 q g m wm 0 c vb0 from ⟨hbe.base HB.out.1.size, blk_below HB.out.2 hb, below_step HB.out.1 hb⟩); clear hbe hb hcc hlc) | go_in)
 go_loopw [33] (fun v wr => ∃ k : Nat, k ≤ l.length ∧ v = .int .i64 k ∧ Aside0 (Mj w wr q g m wm k c (benchV c vb0 (l.take k)))) (fun v _ => l.length - (intOf v).toNat)
 case atStart => exact ⟨0, Nat.zero_le _, rfl, HM0⟩
 case round =>
  clear HM0 HB
  obtain ⟨k, hk, rfl, HI⟩ := hrel
  rcases Nat.lt_or_ge k l.length with hlt | hge
  ·have p0 : (0 : Int) ≤ (k : Int) := by omega
   have q0 : (k : Int) < (l.length : Int) := by omega
   obtain ⟨e, he⟩ : ∃ e, l[k]? = some e := ⟨_, List.getElem?_eq_getElem hlt⟩
   have HW := Aside0.mk (HWF.out e (List.mem_of_getElem? he))
   obtain ⟨ad, rfl, c0, c1', c2, c3, c4, c5, c6⟩ := (HIN.out k e he).below HI.out.bel
   have hnn : wrap64 ((k : Int) + 1) = ((k + 1 : Nat) : Int) := by have := HN.out; unfold wrap64; omega
   have HCH := Aside0.mk (fun (W : World) (h : Mj w W q g m wm k c (benchV c vb0 (l.take k))) => h.hear e HW.out (by have := HN.out; omega))
   have HX := Aside0.mk (HI.out.alloc (.cells e.cells 60))
   have HS2 := Aside0.mk (show benchV c vb0 (l.take (k + 1)) = (hearV c (benchV c vb0 (l.take k)) e).1 by obtain ⟨h1, h2⟩ := List.getElem?_eq_some_iff.1 he; rw [List.take_succ_eq_append_getElem h1, h2, benchV_snoc])
   replace q0 := eq_true q0
   replace p0 := eq_true p0
   clear he
   go_wp2_with (first | (go_at_call 51; (with_reducible refine (HCH.out _ HX.out).mono ?_); rintro r w4 ⟨rfl, hj⟩; have HJ2 := Aside0.mk hj; clear hj) | go_in)
   go_roundw
   case rel => exact ⟨k + 1, Nat.succ_le_of_lt hlt, by first | rw [hnn] | simp, ⟨by rw [HS2.out]; exact HJ2.out⟩⟩
   case measure => first | (rw [hnn]; simp [intOf]; omega) | (simp [intOf]; omega)
  ·have q0 : ((k : Int) < (l.length : Int)) = False := eq_false (by omega)
   have HI2 := Aside0.mk (show Mj w wr q g m wm l.length c (benchV c vb0 l) by have := HI.out; rw [show k = l.length by omega, List.take_of_length_le (Nat.le_refl _)] at this; exact this)
   clear HI hge hk
   obtain ⟨b, hb0⟩ : ∃ b, benchV c vb0 l = b := ⟨_, rfl⟩
   obtain ⟨s, hs0⟩ : ∃ s, (readS l l.length).1 = s := ⟨_, rfl⟩
   obtain ⟨N, hN⟩ : ∃ N : Nat, c.c7 = (N : Int) := ⟨c.c7.toNat, by have := HCC.out; omega⟩
   rw [hb0] at HI2 HLV
   rw [hs0] at HLV CR
   have HNN := Aside0.mk (show N ≤ 256 by have := HCC.out; omega)
   have HLN := Aside0.mk (show lateV c l = lateL c b.F s N by rw [HLV.out, hN]; rfl)
   have HC7 := Aside0.mk hN
   have HFK := Aside0.mk (rfl : l.length = l.length)
   clear hb0 hs0 hN
   have hcc := fun z => blk_cell HI2.out.cb_ z
   have hlc := blk_lt HI2.out.cb_
   have hc7 := HC7.out
   go_wp2_with (first | (go_at_call 70; (with_reducible refine (CR.out _ HI2.out.bel).mono ?_); rintro r w5 ⟨ma, ms, mm, sl, rfl, hS, hb⟩; have HK0 := Aside0.mk (show Kj w (w5.alloc (.cells (svA ma ms mm) 117)) q g m wm l.length c b ma ms mm (2 * l.length) s sl w5.heap.size (.slice none 0 0) (lateL c b.F s 0) from ⟨(HI2.out.step hb).alloc _, (hS.base HI2.out.bel.size).alloc _, blk_new w5 _, RowIs.nil _ _ _ _ _⟩); clear hcc hlc; have hcc := fun z => blk_cell (HI2.out.step hb).cb_ z; have hlc := blk_lt (HI2.out.step hb).cb_; clear hb hS) | go_in)
   clear hc7 hcc hlc
   obtain ⟨sb, hsb⟩ : ∃ sb, w5.heap.size = sb := ⟨_, rfl⟩
   rw [hsb] at HK0 ⊢
   obtain ⟨nb, hnb⟩ : ∃ nb, nb = l.length := ⟨_, rfl⟩
   obtain ⟨ns, hns⟩ : ∃ ns, ns = 2 * l.length := ⟨_, rfl⟩
   rw [← hns, ← hnb] at HK0
   have HNS := Aside0.mk (show ns ≤ 1000000 by have := HN.out; omega)
   clear hsb hnb hns HI2
   go_loopw [12, 45] (fun v12 v45 wr => ∃ (k : Nat) (vo : Value), k ≤ N ∧ v45 = .int .i64 k ∧ vo = v12 ∧ Aside0 (Kj w wr q g m wm nb c b ma ms mm ns s sl sb vo (lateL c b.F s k))) (fun _ v45 _ => N - (intOf v45).toNat)
   case atStart => exact ⟨0, _, Nat.zero_le _, rfl, rfl, HK0⟩
   case round =>
    clear HK0 q0
    obtain ⟨k, vo, hk, rfl, rfl, HI⟩ := hrel
    rcases Nat.lt_or_ge k N with hlt | hge
    ·have q0 : ((k : Int) < (N : Int)) = True := eq_true (by omega)
     have hnn : wrap64 ((k : Int) + 1) = ((k + 1 : Nat) : Int) := by have := HNN.out; unfold wrap64; omega
     have HWK := Aside0.mk (wf_nat (k := k) (by have := HNN.out; omega))
     have HSC := Aside0.mk (lateL_succ c b.F s k)
     have HLL := Aside0.mk (show (lateL c b.F s k).length ≤ 1000000 by have := lateL_len c b.F s k; have := HNN.out; omega)
     have CS := Aside0.mk (fun (W : World) (h : Kj w W q g m wm nb c b ma ms mm ns s sl sb vo (lateL c b.F s k)) => h.state (k : Int) HWK.out)
     have HBB : Aside0 (lateB c b.F s (k : Int) = (((b.F.at_ (k : Int)).1 == 1 || (b.F.at_ (k : Int)).1 == 2) && ((s.snc (k : Int)).isSome && (decide (0 ≤ (s.snc (k : Int)).getD 0) && goneV c.c0 s ((s.snc (k : Int)).getD 0) (wrap64 (dueV c (b.F.at_ (k : Int)) + c.c5)))))) := ⟨rfl⟩
     obtain ⟨a, att, d, hst⟩ : ∃ a att d, b.F.at_ (k : Int) = (a, att, d) := ⟨_, _, _, rfl⟩
     obtain ⟨sn, hsn⟩ : ∃ sn, (s.snc (k : Int)).getD 0 = sn := ⟨_, rfl⟩
     obtain ⟨kn, hkn⟩ : ∃ kn, (s.snc (k : Int)).isSome = kn := ⟨_, rfl⟩
     rw [hst] at CS HBB
     rw [hsn, hkn] at HBB
     have HSN := Aside0.mk hsn
     have HKN := Aside0.mk hkn
     simp only at HBB
     clear hst hsn hkn
     have CG := Aside0.mk (fun (W : World) (at_ : Int) (h : SvIs W w.heap.size ma ms mm ns s sl) => gone_any c sn at_ (by have := HCW.out; omega) HNS.out h)
     have CI := Aside0.mk (fun W => idle_calls c d W)
     have hcc := fun z => blk_cell HI.out.mj.cb_ z
     have hlc := blk_lt HI.out.mj.cb_
     have hcq := fun z => HI.out.mj.be.cell z
     have hlq := HI.out.mj.be.lt
     have hcs := fun z => blk_cell HI.out.sb_ z
     have hls := blk_lt HI.out.sb_
     by_cases a1 : a = 1
     ·have b1 : (a == 1) = true := beq_iff_eq.2 (a1)
      have HD := Aside0.mk (show dueV c (a, att, d) = idleI c d by unfold dueV; exact if_pos a1)
      rw [HD.out, b1] at HBB
      clear a1
      cases kn with
      | false =>
       have HV := Aside0.mk (show lateB c b.F s (k : Int) = false by rw [HBB.out]; rfl)
       go_wp2_with (first | (go_at_call 37; (with_reducible refine (CS.out _ HI.out).mono ?_); rintro r w6 ⟨rfl, hj⟩; have HJ6 := Aside0.mk (And.intro (hj.alloc (.cells #[.int .i64 a, .int .i64 att, .int .i64 d] 56)) (blk_new w6 (.cells #[.int .i64 a, .int .i64 att, .int .i64 d] 56))); clear hj hcq hlq; clear hcc hlc hcs hls; have hcc := fun z => blk_cell HJ6.out.1.mj.cb_ z; have hlc := blk_lt HJ6.out.1.mj.cb_; have hcs := fun z => blk_cell HJ6.out.1.sb_ z; have hls := blk_lt HJ6.out.1.sb_; have hct := fun z => blk_cell HJ6.out.2 z; have hlt6 := blk_lt HJ6.out.2; have hl := HJ6.out.1.sv.x.lookS2 HWK.out; rw [HSN.out, HKN.out] at hl) | (go_at_call 31; (with_reducible refine (CI.out _).mono ?_); rintro r w7 ⟨rfl, hb⟩; have HJ7 := Aside0.mk (And.intro (HJ6.out.1.step hb) (blk_below HJ6.out.2 hb)); clear hb hct hlt6 hl; clear hcc hlc hcs hls; have hcc := fun z => blk_cell HJ7.out.1.mj.cb_ z; have hlc := blk_lt HJ7.out.1.mj.cb_; have hcs := fun z => blk_cell HJ7.out.1.sb_ z; have hls := blk_lt HJ7.out.1.sb_; have hct := fun z => blk_cell HJ7.out.2 z; have hlt6 := blk_lt HJ7.out.2; have hl := HJ7.out.1.sv.x.lookS2 HWK.out; rw [HSN.out, HKN.out] at hl) | go_in)
       go_roundw
       case rel => exact ⟨k + 1, _, Nat.succ_le_of_lt hlt, by first | rw [hnn] | simp, rfl, ⟨by rw [HSC.out, if_neg (by rw [HV.out]; decide)]; exact HJ7.out.1⟩⟩
       case measure => first | (rw [hnn]; simp [intOf]; omega) | (simp [intOf]; omega)
      | true =>
       cases hz : decide (0 ≤ sn) with
       | false =>
        have z0 : decide (sn ≥ 0) = false := hz
        have HZ := Aside0.mk hz
        clear hz
        have HV := Aside0.mk (show lateB c b.F s (k : Int) = false by rw [HBB.out]; rw [HZ.out]; rfl)
        go_wp2_with (first | (go_at_call 37; (with_reducible refine (CS.out _ HI.out).mono ?_); rintro r w6 ⟨rfl, hj⟩; have HJ6 := Aside0.mk (And.intro (hj.alloc (.cells #[.int .i64 a, .int .i64 att, .int .i64 d] 56)) (blk_new w6 (.cells #[.int .i64 a, .int .i64 att, .int .i64 d] 56))); clear hj hcq hlq; clear hcc hlc hcs hls; have hcc := fun z => blk_cell HJ6.out.1.mj.cb_ z; have hlc := blk_lt HJ6.out.1.mj.cb_; have hcs := fun z => blk_cell HJ6.out.1.sb_ z; have hls := blk_lt HJ6.out.1.sb_; have hct := fun z => blk_cell HJ6.out.2 z; have hlt6 := blk_lt HJ6.out.2; have hl := HJ6.out.1.sv.x.lookS2 HWK.out; rw [HSN.out, HKN.out] at hl) | (go_at_call 31; (with_reducible refine (CI.out _).mono ?_); rintro r w7 ⟨rfl, hb⟩; have HJ7 := Aside0.mk (And.intro (HJ6.out.1.step hb) (blk_below HJ6.out.2 hb)); clear hb hct hlt6 hl; clear hcc hlc hcs hls; have hcc := fun z => blk_cell HJ7.out.1.mj.cb_ z; have hlc := blk_lt HJ7.out.1.mj.cb_; have hcs := fun z => blk_cell HJ7.out.1.sb_ z; have hls := blk_lt HJ7.out.1.sb_; have hct := fun z => blk_cell HJ7.out.2 z; have hlt6 := blk_lt HJ7.out.2; have hl := HJ7.out.1.sv.x.lookS2 HWK.out; rw [HSN.out, HKN.out] at hl) | go_in)
        go_roundw
        case rel => exact ⟨k + 1, _, Nat.succ_le_of_lt hlt, by first | rw [hnn] | simp, rfl, ⟨by rw [HSC.out, if_neg (by rw [HV.out]; decide)]; exact HJ7.out.1⟩⟩
        case measure => first | (rw [hnn]; simp [intOf]; omega) | (simp [intOf]; omega)
       | true =>
        have HZ := Aside0.mk hz
        have z0 : decide (sn ≥ 0) = true := hz
        clear hz
        cases hgv : goneV c.c0 s sn (wrap64 (idleI c d + c.c5)) with
        | false =>
         have CG1 := Aside0.mk (fun (W : World) (h : SvIs W w.heap.size ma ms mm ns s sl) => CG.out W (wrap64 (idleI c d + c.c5)) h)
         rw [hgv] at CG1
         have HGV := Aside0.mk hgv
         clear hgv
         have HV := Aside0.mk (show lateB c b.F s (k : Int) = false by rw [HBB.out]; rw [HZ.out, HGV.out]; rfl)
         go_wp2_with (first | (go_at_call 37; (with_reducible refine (CS.out _ HI.out).mono ?_); rintro r w6 ⟨rfl, hj⟩; have HJ6 := Aside0.mk (And.intro (hj.alloc (.cells #[.int .i64 a, .int .i64 att, .int .i64 d] 56)) (blk_new w6 (.cells #[.int .i64 a, .int .i64 att, .int .i64 d] 56))); clear hj hcq hlq; clear hcc hlc hcs hls; have hcc := fun z => blk_cell HJ6.out.1.mj.cb_ z; have hlc := blk_lt HJ6.out.1.mj.cb_; have hcs := fun z => blk_cell HJ6.out.1.sb_ z; have hls := blk_lt HJ6.out.1.sb_; have hct := fun z => blk_cell HJ6.out.2 z; have hlt6 := blk_lt HJ6.out.2; have hl := HJ6.out.1.sv.x.lookS2 HWK.out; rw [HSN.out, HKN.out] at hl) | (go_at_call 31; (with_reducible refine (CI.out _).mono ?_); rintro r w7 ⟨rfl, hb⟩; have HJ7 := Aside0.mk (And.intro (HJ6.out.1.step hb) (blk_below HJ6.out.2 hb)); clear hb hct hlt6 hl; clear hcc hlc hcs hls; have hcc := fun z => blk_cell HJ7.out.1.mj.cb_ z; have hlc := blk_lt HJ7.out.1.mj.cb_; have hcs := fun z => blk_cell HJ7.out.1.sb_ z; have hls := blk_lt HJ7.out.1.sb_; have hct := fun z => blk_cell HJ7.out.2 z; have hlt6 := blk_lt HJ7.out.2; have hl := HJ7.out.1.sv.x.lookS2 HWK.out; rw [HSN.out, HKN.out] at hl) | (go_at_call 71; (with_reducible refine (CG1.out _ HJ7.out.1.sv).mono ?_); rintro r w8 ⟨rfl, hb⟩; have HJ8 := Aside0.mk (HJ7.out.1.step hb); clear hb) | go_in)
         go_roundw
         case rel => exact ⟨k + 1, _, Nat.succ_le_of_lt hlt, by first | rw [hnn] | simp, rfl, ⟨by rw [HSC.out, if_neg (by rw [HV.out]; decide)]; exact HJ8.out⟩⟩
         case measure => first | (rw [hnn]; simp [intOf]; omega) | (simp [intOf]; omega)
        | true =>
         have CG1 := Aside0.mk (fun (W : World) (h : SvIs W w.heap.size ma ms mm ns s sl) => CG.out W (wrap64 (idleI c d + c.c5)) h)
         rw [hgv] at CG1
         have HGV := Aside0.mk hgv
         clear hgv
         have HV := Aside0.mk (show lateB c b.F s (k : Int) = true by rw [HBB.out]; rw [HZ.out, HGV.out]; rfl)
         go_wp2_with (first | (go_at_call 37; (with_reducible refine (CS.out _ HI.out).mono ?_); rintro r w6 ⟨rfl, hj⟩; have HJ6 := Aside0.mk (And.intro (hj.alloc (.cells #[.int .i64 a, .int .i64 att, .int .i64 d] 56)) (blk_new w6 (.cells #[.int .i64 a, .int .i64 att, .int .i64 d] 56))); clear hj hcq hlq; clear hcc hlc hcs hls; have hcc := fun z => blk_cell HJ6.out.1.mj.cb_ z; have hlc := blk_lt HJ6.out.1.mj.cb_; have hcs := fun z => blk_cell HJ6.out.1.sb_ z; have hls := blk_lt HJ6.out.1.sb_; have hct := fun z => blk_cell HJ6.out.2 z; have hlt6 := blk_lt HJ6.out.2; have hl := HJ6.out.1.sv.x.lookS2 HWK.out; rw [HSN.out, HKN.out] at hl) | (go_at_call 31; (with_reducible refine (CI.out _).mono ?_); rintro r w7 ⟨rfl, hb⟩; have HJ7 := Aside0.mk (And.intro (HJ6.out.1.step hb) (blk_below HJ6.out.2 hb)); clear hb hct hlt6 hl; clear hcc hlc hcs hls; have hcc := fun z => blk_cell HJ7.out.1.mj.cb_ z; have hlc := blk_lt HJ7.out.1.mj.cb_; have hcs := fun z => blk_cell HJ7.out.1.sb_ z; have hls := blk_lt HJ7.out.1.sb_; have hct := fun z => blk_cell HJ7.out.2 z; have hlt6 := blk_lt HJ7.out.2; have hl := HJ7.out.1.sv.x.lookS2 HWK.out; rw [HSN.out, HKN.out] at hl) | (go_at_call 71; (with_reducible refine (CG1.out _ HJ7.out.1.sv).mono ?_); rintro r w8 ⟨rfl, hb⟩; have HJ8 := Aside0.mk (HJ7.out.1.step hb); clear hb) | (at_builtin; refine RowIs.append_wpl (by rfl) 29 8 _ _ _ Try.underlying29 in_info rfl (by decide) rfl HJ8.out.ro (k : Int) rfl (by simp [Value.oneCell']) (by rfl) (by rfl) HLL.out (by decide) HJ8.out.mj.bel.size ?_; intro gg cap6 w9 hown hgrow hat; have HP := Aside0.mk ((HJ8.out.alloc _).app hown hgrow); clear hown hgrow hat) | go_in)
         go_roundw
         case rel => exact ⟨k + 1, _, Nat.succ_le_of_lt hlt, by first | rw [hnn] | simp, rfl, ⟨by rw [HSC.out, if_pos HV.out]; exact HP.out⟩⟩
         case measure => first | (rw [hnn]; simp [intOf]; omega) | (simp [intOf]; omega)
     ·have b1 : (a == 1) = false := beq_eq_false_iff_ne.2 (a1)
      have HD := Aside0.mk (show dueV c (a, att, d) = d by unfold dueV; exact if_neg a1)
      rw [HD.out, b1] at HBB
      clear a1
      by_cases a2 : a = 2
      ·have b2 : (a == 2) = true := beq_iff_eq.2 (a2)
       rw [b2] at HBB
       clear a2
       cases kn with
       | false =>
        have HV := Aside0.mk (show lateB c b.F s (k : Int) = false by rw [HBB.out]; rfl)
        go_wp2_with (first | (go_at_call 37; (with_reducible refine (CS.out _ HI.out).mono ?_); rintro r w6 ⟨rfl, hj⟩; have HJ6 := Aside0.mk (And.intro (hj.alloc (.cells #[.int .i64 a, .int .i64 att, .int .i64 d] 56)) (blk_new w6 (.cells #[.int .i64 a, .int .i64 att, .int .i64 d] 56))); clear hj hcq hlq; clear hcc hlc hcs hls; have hcc := fun z => blk_cell HJ6.out.1.mj.cb_ z; have hlc := blk_lt HJ6.out.1.mj.cb_; have hcs := fun z => blk_cell HJ6.out.1.sb_ z; have hls := blk_lt HJ6.out.1.sb_; have hct := fun z => blk_cell HJ6.out.2 z; have hlt6 := blk_lt HJ6.out.2; have hl := HJ6.out.1.sv.x.lookS2 HWK.out; rw [HSN.out, HKN.out] at hl) | go_in)
        go_roundw
        case rel => exact ⟨k + 1, _, Nat.succ_le_of_lt hlt, by first | rw [hnn] | simp, rfl, ⟨by rw [HSC.out, if_neg (by rw [HV.out]; decide)]; exact HJ6.out.1⟩⟩
        case measure => first | (rw [hnn]; simp [intOf]; omega) | (simp [intOf]; omega)
       | true =>
        cases hz : decide (0 ≤ sn) with
        | false =>
         have z0 : decide (sn ≥ 0) = false := hz
         have HZ := Aside0.mk hz
         clear hz
         have HV := Aside0.mk (show lateB c b.F s (k : Int) = false by rw [HBB.out]; rw [HZ.out]; rfl)
         go_wp2_with (first | (go_at_call 37; (with_reducible refine (CS.out _ HI.out).mono ?_); rintro r w6 ⟨rfl, hj⟩; have HJ6 := Aside0.mk (And.intro (hj.alloc (.cells #[.int .i64 a, .int .i64 att, .int .i64 d] 56)) (blk_new w6 (.cells #[.int .i64 a, .int .i64 att, .int .i64 d] 56))); clear hj hcq hlq; clear hcc hlc hcs hls; have hcc := fun z => blk_cell HJ6.out.1.mj.cb_ z; have hlc := blk_lt HJ6.out.1.mj.cb_; have hcs := fun z => blk_cell HJ6.out.1.sb_ z; have hls := blk_lt HJ6.out.1.sb_; have hct := fun z => blk_cell HJ6.out.2 z; have hlt6 := blk_lt HJ6.out.2; have hl := HJ6.out.1.sv.x.lookS2 HWK.out; rw [HSN.out, HKN.out] at hl) | go_in)
         go_roundw
         case rel => exact ⟨k + 1, _, Nat.succ_le_of_lt hlt, by first | rw [hnn] | simp, rfl, ⟨by rw [HSC.out, if_neg (by rw [HV.out]; decide)]; exact HJ6.out.1⟩⟩
         case measure => first | (rw [hnn]; simp [intOf]; omega) | (simp [intOf]; omega)
        | true =>
         have HZ := Aside0.mk hz
         have z0 : decide (sn ≥ 0) = true := hz
         clear hz
         cases hgv : goneV c.c0 s sn (wrap64 (d + c.c5)) with
         | false =>
          have CG1 := Aside0.mk (fun (W : World) (h : SvIs W w.heap.size ma ms mm ns s sl) => CG.out W (wrap64 (d + c.c5)) h)
          rw [hgv] at CG1
          have HGV := Aside0.mk hgv
          clear hgv
          have HV := Aside0.mk (show lateB c b.F s (k : Int) = false by rw [HBB.out]; rw [HZ.out, HGV.out]; rfl)
          go_wp2_with (first | (go_at_call 37; (with_reducible refine (CS.out _ HI.out).mono ?_); rintro r w6 ⟨rfl, hj⟩; have HJ6 := Aside0.mk (And.intro (hj.alloc (.cells #[.int .i64 a, .int .i64 att, .int .i64 d] 56)) (blk_new w6 (.cells #[.int .i64 a, .int .i64 att, .int .i64 d] 56))); clear hj hcq hlq; clear hcc hlc hcs hls; have hcc := fun z => blk_cell HJ6.out.1.mj.cb_ z; have hlc := blk_lt HJ6.out.1.mj.cb_; have hcs := fun z => blk_cell HJ6.out.1.sb_ z; have hls := blk_lt HJ6.out.1.sb_; have hct := fun z => blk_cell HJ6.out.2 z; have hlt6 := blk_lt HJ6.out.2; have hl := HJ6.out.1.sv.x.lookS2 HWK.out; rw [HSN.out, HKN.out] at hl) | (go_at_call 71; (with_reducible refine (CG1.out _ HJ6.out.1.sv).mono ?_); rintro r w8 ⟨rfl, hb⟩; have HJ8 := Aside0.mk (HJ6.out.1.step hb); clear hb) | go_in)
          go_roundw
          case rel => exact ⟨k + 1, _, Nat.succ_le_of_lt hlt, by first | rw [hnn] | simp, rfl, ⟨by rw [HSC.out, if_neg (by rw [HV.out]; decide)]; exact HJ8.out⟩⟩
          case measure => first | (rw [hnn]; simp [intOf]; omega) | (simp [intOf]; omega)
         | true =>
          have CG1 := Aside0.mk (fun (W : World) (h : SvIs W w.heap.size ma ms mm ns s sl) => CG.out W (wrap64 (d + c.c5)) h)
          rw [hgv] at CG1
          have HGV := Aside0.mk hgv
          clear hgv
          have HV := Aside0.mk (show lateB c b.F s (k : Int) = true by rw [HBB.out]; rw [HZ.out, HGV.out]; rfl)
          go_wp2_with (first | (go_at_call 37; (with_reducible refine (CS.out _ HI.out).mono ?_); rintro r w6 ⟨rfl, hj⟩; have HJ6 := Aside0.mk (And.intro (hj.alloc (.cells #[.int .i64 a, .int .i64 att, .int .i64 d] 56)) (blk_new w6 (.cells #[.int .i64 a, .int .i64 att, .int .i64 d] 56))); clear hj hcq hlq; clear hcc hlc hcs hls; have hcc := fun z => blk_cell HJ6.out.1.mj.cb_ z; have hlc := blk_lt HJ6.out.1.mj.cb_; have hcs := fun z => blk_cell HJ6.out.1.sb_ z; have hls := blk_lt HJ6.out.1.sb_; have hct := fun z => blk_cell HJ6.out.2 z; have hlt6 := blk_lt HJ6.out.2; have hl := HJ6.out.1.sv.x.lookS2 HWK.out; rw [HSN.out, HKN.out] at hl) | (go_at_call 71; (with_reducible refine (CG1.out _ HJ6.out.1.sv).mono ?_); rintro r w8 ⟨rfl, hb⟩; have HJ8 := Aside0.mk (HJ6.out.1.step hb); clear hb) | (at_builtin; refine RowIs.append_wpl (by rfl) 29 8 _ _ _ Try.underlying29 in_info rfl (by decide) rfl HJ8.out.ro (k : Int) rfl (by simp [Value.oneCell']) (by rfl) (by rfl) HLL.out (by decide) HJ8.out.mj.bel.size ?_; intro gg cap6 w9 hown hgrow hat; have HP := Aside0.mk ((HJ8.out.alloc _).app hown hgrow); clear hown hgrow hat) | go_in)
          go_roundw
          case rel => exact ⟨k + 1, _, Nat.succ_le_of_lt hlt, by first | rw [hnn] | simp, rfl, ⟨by rw [HSC.out, if_pos HV.out]; exact HP.out⟩⟩
          case measure => first | (rw [hnn]; simp [intOf]; omega) | (simp [intOf]; omega)
      ·have b2 : (a == 2) = false := beq_eq_false_iff_ne.2 (a2)
       rw [b2] at HBB
       clear a2
       have HV := Aside0.mk (show lateB c b.F s (k : Int) = false by rw [HBB.out]; rfl)
       go_wp2_with (first | (go_at_call 37; (with_reducible refine (CS.out _ HI.out).mono ?_); rintro r w6 ⟨rfl, hj⟩; have HJ6 := Aside0.mk (And.intro (hj.alloc (.cells #[.int .i64 a, .int .i64 att, .int .i64 d] 56)) (blk_new w6 (.cells #[.int .i64 a, .int .i64 att, .int .i64 d] 56))); clear hj hcq hlq; clear hcc hlc hcs hls; have hcc := fun z => blk_cell HJ6.out.1.mj.cb_ z; have hlc := blk_lt HJ6.out.1.mj.cb_; have hcs := fun z => blk_cell HJ6.out.1.sb_ z; have hls := blk_lt HJ6.out.1.sb_; have hct := fun z => blk_cell HJ6.out.2 z; have hlt6 := blk_lt HJ6.out.2; have hl := HJ6.out.1.sv.x.lookS2 HWK.out; rw [HSN.out, HKN.out] at hl) | go_in)
       go_roundw
       case rel => exact ⟨k + 1, _, Nat.succ_le_of_lt hlt, by first | rw [hnn] | simp, rfl, ⟨by rw [HSC.out, if_neg (by rw [HV.out]; decide)]; exact HJ6.out.1⟩⟩
       case measure => first | (rw [hnn]; simp [intOf]; omega) | (simp [intOf]; omega)
    ·have q0 : ((k : Int) < (N : Int)) = False := eq_false (by omega)
     have HE := Aside0.mk (show lateL c b.F s k = lateV c l by rw [HLN.out, show k = N by omega])
     clear hk hge
     go_wp2
     go_ret
     exact ⟨_, rfl, by rw [← HE.out]; exact HI.out.ro, HI.out.mj.bel⟩
theorem vlate_any (A1 : Option Addr) (c1 : Nat) (c : Cf) (l : List Ev7) (hn : l.length ≤ 200000) (w : World) (hin : ∀ (i : Nat) e, l[i]? = some e → EvIn w A1 i e) (hwf : ∀ e ∈ l, wf7 e) :
  Calls Try.prog 48 #[.slice A1 l.length c1, .agg c.cells] w (LPost w (lateV c l)) := by
 by_cases he : (judgeV c l).2 ≠ 0
 ·exact vlate_err A1 c1 c l hn he w hin hwf
 ·have hc0 : cfCode c = 0 := Classical.byContradiction fun q => he (by unfold judgeV; rw [if_pos q]; exact q)
  cases hq : goV c vb0 l with
  | none => exact vlate_ok A1 c1 c hc0 l hn hq w hin hwf
  | some p =>
   obtain ⟨i, k⟩ := p
   exact absurd (by unfold judgeV; rw [if_neg (fun z => z hc0), hq]; exact (goV_some hq).2.1) he
end Go.Proofs.Ythljanmfanppdaa.Vd
end
section
namespace Go.Proofs.Ythljanmfanppdaa.KLa
open Go.RowKit Go.Proofs.YthljanmfanppdaaW.PrintWords Go.Proofs.YthljanmfanppdaaW.PrintLast Go.Proofs.YthljanmfanppdaaW.PrintMore
attribute [local go_sem] max2_int min2_int max_two min_two max_three min_three max_four min_four   -- for this text's walks alone
set_option linter.unusedVariables false
set_option linter.unusedSimpArgs false
def errW : Option Int → Value
 | none => .nilIface
 | some c => .iface 0 (.int .i64 c)
theorem errW_none : errW none = .nilIface := rfl
theorem errW_some (c : Int) : errW (some c) = .iface 0 (.int .i64 c) := rfl
theorem info60 : (Try.prog.info? 60).map (fun i => (i.zero, i.size, i.bytes)) = some (some (.agg #[(.int .i64 0), (.int .i64 0), (.int .i64 0), (.int .i64 0), (.int .i64 0), (.int .i64 0), (.int .i64 0)]), 7, 56) := by kernel_rfl
structure S54 where
 f0 : Int
 f1 : Int
 f2 : Int
 f3 : Int
 f4 : Int
 f5 : Int
 f6 : Int
def z54 : S54 := ⟨(0 : Int), (0 : Int), (0 : Int), (0 : Int), (0 : Int), (0 : Int), (0 : Int)⟩
def k54 : Kd S54 := Kd.iso (Kd.pair (Kd.int .i64) (Kd.pair (Kd.int .i64) (Kd.pair (Kd.int .i64) (Kd.pair (Kd.int .i64) (Kd.pair (Kd.int .i64) (Kd.pair (Kd.int .i64) (Kd.int .i64))))))) (fun x : S54 => (x.f0, x.f1, x.f2, x.f3, x.f4, x.f5, x.f6))
theorem k54_open {w : World} {x : S54} {cs : List Value} (h : k54.K w x cs) : cs = [.int .i64 x.f0, .int .i64 x.f1, .int .i64 x.f2, .int .i64 x.f3, .int .i64 x.f4, .int .i64 x.f5, .int .i64 x.f6] := by
 obtain ⟨_, _, rfl, rfl, ⟨_, _, rfl, rfl, ⟨_, _, rfl, rfl, ⟨_, _, rfl, rfl, ⟨_, _, rfl, rfl, ⟨_, _, rfl, rfl, rfl⟩⟩⟩⟩⟩⟩ := h
 exact rfl
theorem k54_mk (w : World) (x : S54)  : k54.K w x [.int .i64 x.f0, .int .i64 x.f1, .int .i64 x.f2, .int .i64 x.f3, .int .i64 x.f4, .int .i64 x.f5, .int .i64 x.f6] := ⟨[.int .i64 x.f0], [.int .i64 x.f1, .int .i64 x.f2, .int .i64 x.f3, .int .i64 x.f4, .int .i64 x.f5, .int .i64 x.f6], rfl, rfl, ⟨[.int .i64 x.f1], [.int .i64 x.f2, .int .i64 x.f3, .int .i64 x.f4, .int .i64 x.f5, .int .i64 x.f6], rfl, rfl, ⟨[.int .i64 x.f2], [.int .i64 x.f3, .int .i64 x.f4, .int .i64 x.f5, .int .i64 x.f6], rfl, rfl, ⟨[.int .i64 x.f3], [.int .i64 x.f4, .int .i64 x.f5, .int .i64 x.f6], rfl, rfl, ⟨[.int .i64 x.f4], [.int .i64 x.f5, .int .i64 x.f6], rfl, rfl, ⟨[.int .i64 x.f5], [.int .i64 x.f6], rfl, rfl, rfl⟩⟩⟩⟩⟩⟩
def rd_T54 (xs : List S54) (i : Int) : S54 := xs.getD i.toNat z54
theorem at_T54 {w : World} {A : Option Addr} {n : Nat} {xs : List S54} (h : Kd.C k54 w A n xs) (i : Int) (h0 : 0 ≤ i) (h1 : i < n) : ∃ ad , A = some ad ∧ w.cell? (ad.add (i.toNat * 7)) = some (.int .i64 (rd_T54 xs i).f0) ∧ w.cell? ⟨(ad.add (i.toNat * 7)).block, (ad.add (i.toNat * 7)).off + 1, none⟩ = some (.int .i64 (rd_T54 xs i).f1) ∧ w.cell? ⟨(ad.add (i.toNat * 7)).block, (ad.add (i.toNat * 7)).off + 2, none⟩ = some (.int .i64 (rd_T54 xs i).f2) ∧ w.cell? ⟨(ad.add (i.toNat * 7)).block, (ad.add (i.toNat * 7)).off + 3, none⟩ = some (.int .i64 (rd_T54 xs i).f3) ∧ w.cell? ⟨(ad.add (i.toNat * 7)).block, (ad.add (i.toNat * 7)).off + 4, none⟩ = some (.int .i64 (rd_T54 xs i).f4) ∧ w.cell? ⟨(ad.add (i.toNat * 7)).block, (ad.add (i.toNat * 7)).off + 5, none⟩ = some (.int .i64 (rd_T54 xs i).f5) ∧ w.cell? ⟨(ad.add (i.toNat * 7)).block, (ad.add (i.toNat * 7)).off + 6, none⟩ = some (.int .i64 (rd_T54 xs i).f6) := by
 obtain ⟨ad, c, e, _, hK, hc0⟩ := Kd.C_get h z54 i h0 h1
 have hc : ∀ j u, c[j]? = some u → w.cell? (ad.add (i.toNat * 7 + j)) = some u := hc0
 obtain rfl := k54_open hK
 exact ⟨ad, e, hc 0 _ rfl, by rw [← add_field _ _ 1 (by omega)]; exact hc 1 _ rfl, by rw [← add_field _ _ 2 (by omega)]; exact hc 2 _ rfl, by rw [← add_field _ _ 3 (by omega)]; exact hc 3 _ rfl, by rw [← add_field _ _ 4 (by omega)]; exact hc 4 _ rfl, by rw [← add_field _ _ 5 (by omega)]; exact hc 5 _ rfl, by rw [← add_field _ _ 6 (by omega)]; exact hc 6 _ rfl⟩
structure S60 where
 f0 : Int
 f1 : Int
 f2 : Int
 f3 : Int
 f4 : Int
 f5 : Int
 f6 : Int
def z60 : S60 := ⟨(0 : Int), (0 : Int), (0 : Int), (0 : Int), (0 : Int), (0 : Int), (0 : Int)⟩
def k60 : Kd S60 := Kd.iso (Kd.pair (Kd.int .i64) (Kd.pair (Kd.int .i64) (Kd.pair (Kd.int .i64) (Kd.pair (Kd.int .i64) (Kd.pair (Kd.int .i64) (Kd.pair (Kd.int .i64) (Kd.int .i64))))))) (fun x : S60 => (x.f0, x.f1, x.f2, x.f3, x.f4, x.f5, x.f6))
theorem k60_open {w : World} {x : S60} {cs : List Value} (h : k60.K w x cs) : cs = [.int .i64 x.f0, .int .i64 x.f1, .int .i64 x.f2, .int .i64 x.f3, .int .i64 x.f4, .int .i64 x.f5, .int .i64 x.f6] := by
 obtain ⟨_, _, rfl, rfl, ⟨_, _, rfl, rfl, ⟨_, _, rfl, rfl, ⟨_, _, rfl, rfl, ⟨_, _, rfl, rfl, ⟨_, _, rfl, rfl, rfl⟩⟩⟩⟩⟩⟩ := h
 exact rfl
theorem k60_mkM (w : World) (base : Nat) (ok : Nat → Prop) (x : S60)  : k60.M w base ok x [.int .i64 x.f0, .int .i64 x.f1, .int .i64 x.f2, .int .i64 x.f3, .int .i64 x.f4, .int .i64 x.f5, .int .i64 x.f6] := ⟨[.int .i64 x.f0], [.int .i64 x.f1, .int .i64 x.f2, .int .i64 x.f3, .int .i64 x.f4, .int .i64 x.f5, .int .i64 x.f6], rfl, rfl, ⟨[.int .i64 x.f1], [.int .i64 x.f2, .int .i64 x.f3, .int .i64 x.f4, .int .i64 x.f5, .int .i64 x.f6], rfl, rfl, ⟨[.int .i64 x.f2], [.int .i64 x.f3, .int .i64 x.f4, .int .i64 x.f5, .int .i64 x.f6], rfl, rfl, ⟨[.int .i64 x.f3], [.int .i64 x.f4, .int .i64 x.f5, .int .i64 x.f6], rfl, rfl, ⟨[.int .i64 x.f4], [.int .i64 x.f5, .int .i64 x.f6], rfl, rfl, ⟨[.int .i64 x.f5], [.int .i64 x.f6], rfl, rfl, rfl⟩⟩⟩⟩⟩⟩
def rd_T60 (xs : List S60) (i : Int) : S60 := xs.getD i.toNat z60
theorem at_T60 {w : World} {A : Option Addr} {n : Nat} {xs : List S60} (h : Kd.C k60 w A n xs) (i : Int) (h0 : 0 ≤ i) (h1 : i < n) : ∃ ad , A = some ad ∧ w.cell? (ad.add (i.toNat * 7)) = some (.int .i64 (rd_T60 xs i).f0) ∧ w.cell? ⟨(ad.add (i.toNat * 7)).block, (ad.add (i.toNat * 7)).off + 1, none⟩ = some (.int .i64 (rd_T60 xs i).f1) ∧ w.cell? ⟨(ad.add (i.toNat * 7)).block, (ad.add (i.toNat * 7)).off + 2, none⟩ = some (.int .i64 (rd_T60 xs i).f2) ∧ w.cell? ⟨(ad.add (i.toNat * 7)).block, (ad.add (i.toNat * 7)).off + 3, none⟩ = some (.int .i64 (rd_T60 xs i).f3) ∧ w.cell? ⟨(ad.add (i.toNat * 7)).block, (ad.add (i.toNat * 7)).off + 4, none⟩ = some (.int .i64 (rd_T60 xs i).f4) ∧ w.cell? ⟨(ad.add (i.toNat * 7)).block, (ad.add (i.toNat * 7)).off + 5, none⟩ = some (.int .i64 (rd_T60 xs i).f5) ∧ w.cell? ⟨(ad.add (i.toNat * 7)).block, (ad.add (i.toNat * 7)).off + 6, none⟩ = some (.int .i64 (rd_T60 xs i).f6) := by
 obtain ⟨ad, c, e, _, hK, hc0⟩ := Kd.C_get h z60 i h0 h1
 have hc : ∀ j u, c[j]? = some u → w.cell? (ad.add (i.toNat * 7 + j)) = some u := hc0
 obtain rfl := k60_open hK
 exact ⟨ad, e, hc 0 _ rfl, by rw [← add_field _ _ 1 (by omega)]; exact hc 1 _ rfl, by rw [← add_field _ _ 2 (by omega)]; exact hc 2 _ rfl, by rw [← add_field _ _ 3 (by omega)]; exact hc 3 _ rfl, by rw [← add_field _ _ 4 (by omega)]; exact hc 4 _ rfl, by rw [← add_field _ _ 5 (by omega)]; exact hc 5 _ rfl, by rw [← add_field _ _ 6 (by omega)]; exact hc 6 _ rfl⟩
end Go.Proofs.Ythljanmfanppdaa.KLa
end
section
set_option maxHeartbeats 8000000
set_option maxRecDepth 100000
namespace Go.Proofs.Ythljanmfanppdaa.KLa
open Go.RowKit Go.Proofs.YthljanmfanppdaaW.PrintWords Go.Proofs.YthljanmfanppdaaW.PrintLast Go.Proofs.YthljanmfanppdaaW.PrintMore
attribute [local go_sem] max2_int min2_int max_two min_two max_three min_three max_four min_four   -- for this text's walks alone
set_option linter.unusedVariables false
set_option linter.unusedSimpArgs false
def knelllaw24_Of.f (a0_0 : Int) (a0_1 : Int) (a0_2 : Int) (a0_3 : Int) (a0_4 : Int) (a0_5 : Int) (a0_6 : Int) : Option (Int × Int × Int × Int × Int × Int × Int) := some (a0_0, a0_1, a0_2, a0_3, a0_4, a0_5, a0_6)
theorem knelllaw24_Of.calls (a0_0 : Int) (a0_1 : Int) (a0_2 : Int) (a0_3 : Int) (a0_4 : Int) (a0_5 : Int) (a0_6 : Int) (r1 : Int) (r2 : Int) (r3 : Int) (r4 : Int) (r5 : Int) (r6 : Int) (r7 : Int) (w : World) (h : knelllaw24_Of.f a0_0 a0_1 a0_2 a0_3 a0_4 a0_5 a0_6 = some (r1, r2, r3, r4, r5, r6, r7)) :
  Calls Try.prog 39 #[.agg #[.int .i64 a0_0, .int .i64 a0_1, .int .i64 a0_2, .int .i64 a0_3, .int .i64 a0_4, .int .i64 a0_5, .int .i64 a0_6]] w fun e w' => e = .returned (.agg #[.int .i64 r1, .int .i64 r2, .int .i64 r3, .int .i64 r4, .int .i64 r5, .int .i64 r6, .int .i64 r7]) ∧ Below w.heap.size w w' := by
 have hu54 := Try.underlying54
 have hu60 := Try.underlying60
 have HB := Aside0.mk (Below.refl w.heap.size w)
 have H : (some (a0_0, a0_1, a0_2, a0_3, a0_4, a0_5, a0_6)) = some (r1, r2, r3, r4, r5, r6, r7) := h
 clear h
 simp only [Option.some.injEq, Prod.mk.injEq] at H
 obtain ⟨rfl, rfl, rfl, rfl, rfl, rfl, rfl⟩ := H
 go_enter Try.func39, Try.ntmps39
 go_wp2_with (first | ((with_reducible refine gate_dst (N := 1) rfl ?_); refine box_event ?hg (N := 1) ?hd (cs := #[.int .i64 a0_0, .int .i64 a0_1, .int .i64 a0_2, .int .i64 a0_3, .int .i64 a0_4, .int .i64 a0_5, .int .i64 a0_6]) (t := 54) ?hr ?_; (case hd => rfl); (case hg => rfl); (case hr => first | (go_simp; done) | (go_simp; rfl)); intro gb101 hg w2 hbox hb; have n0_ := Aside0.mk (below_step (by repeat (first | (with_reducible first | exact HB.out | apply below_alloc | apply pw_below_drewN | apply below_drew1) | exact HB.out)) hb); have n1_ := Aside0.mk (hbox); have n2_ := Aside0.mk ((by rw [hg]; exact (below_size (by repeat (first | (with_reducible first | exact HB.out | apply below_alloc | apply pw_below_drewN | apply below_drew1) | exact HB.out))) : w.heap.size ≤ gb101)); have n3_ := Aside0.mk ((by rw [hg]; exact (below_size (by repeat (first | (with_reducible first | exact HB.out | apply below_alloc | apply pw_below_drewN | apply below_drew1) | exact HB.out))) : w.heap.size ≤ gb101)); clear HB; have HB := n0_; have BK101 := n1_; have GW101 := n2_; have GE101 := n3_; clear n0_ n1_ n2_ n3_; clear hb hbox hg) | ((with_reducible refine gate_dst (N := 2) rfl ?_); refine box_event ?hg (N := 2) ?hd (cs := #[.int .i64 0, .int .i64 0, .int .i64 0, .int .i64 0, .int .i64 0, .int .i64 0, .int .i64 0]) (t := 60) ?hr ?_; (case hd => rfl); (case hg => rfl); (case hr => first | (go_simp; done) | (go_simp; rfl)); intro gb102 hg w3 hbox hb; have n0_ := Aside0.mk (blk_below (g := gb101) (o := .cells #[.int .i64 a0_0, .int .i64 a0_1, .int .i64 a0_2, .int .i64 a0_3, .int .i64 a0_4, .int .i64 a0_5, .int .i64 a0_6] 54 (0, 0)) (by (with_reducible repeat (first | refine blk_drewN ?_ _ | refine blk_drew ?_ | refine blk_alloc ?_ _)); exact BK101.out) hb); have n1_ := Aside0.mk (below_step (by repeat (first | (with_reducible first | exact HB.out | apply below_alloc | apply pw_below_drewN | apply below_drew1 | refine below_set ?_ GE101.out) | exact HB.out)) hb); have n2_ := Aside0.mk (hbox); have n3_ := Aside0.mk ((by rw [hg]; exact (below_size (by repeat (first | (with_reducible first | exact HB.out | apply below_alloc | apply pw_below_drewN | apply below_drew1 | refine below_set ?_ GE101.out) | exact HB.out))) : w.heap.size ≤ gb102)); have n4_ := Aside0.mk ((by rw [hg]; exact (below_size (by repeat (first | (with_reducible first | exact HB.out | apply below_alloc | apply pw_below_drewN | apply below_drew1 | refine below_set ?_ GE101.out) | exact HB.out))) : w.heap.size ≤ gb102)); have n5_ := Aside0.mk ((by rw [hg]; exact Nat.ne_of_lt (blk_lt (g := gb101) (o := .cells #[.int .i64 a0_0, .int .i64 a0_1, .int .i64 a0_2, .int .i64 a0_3, .int .i64 a0_4, .int .i64 a0_5, .int .i64 a0_6] 54 (0, 0)) (by (with_reducible repeat (first | refine blk_drewN ?_ _ | refine blk_drew ?_ | refine blk_alloc ?_ _)); exact BK101.out)) : gb101 ≠ gb102)); have n6_ := Aside0.mk ((by rw [hg]; exact Nat.ne_of_gt (blk_lt (g := gb101) (o := .cells #[.int .i64 a0_0, .int .i64 a0_1, .int .i64 a0_2, .int .i64 a0_3, .int .i64 a0_4, .int .i64 a0_5, .int .i64 a0_6] 54 (0, 0)) (by (with_reducible repeat (first | refine blk_drewN ?_ _ | refine blk_drew ?_ | refine blk_alloc ?_ _)); exact BK101.out)) : gb102 ≠ gb101)); clear BK101; clear HB; have BK101 := n0_; have HB := n1_; have BK102 := n2_; have GW102 := n3_; have GE102 := n4_; have NB101_102 := n5_; have NB102_101 := n6_; clear n0_ n1_ n2_ n3_ n4_ n5_ n6_; clear hb hbox hg; have hnb4 := NB101_102.out; have hnc4 := NB102_101.out; have hcz5_0 : w3.cell? ⟨gb101, 0, none⟩ = some (.int .i64 a0_0) := (blk_cell BK101.out 0).trans rfl; have hcz5_1 : w3.cell? ⟨gb101, 1, none⟩ = some (.int .i64 a0_1) := (blk_cell BK101.out 1).trans rfl; have hcz5_2 : w3.cell? ⟨gb101, 2, none⟩ = some (.int .i64 a0_2) := (blk_cell BK101.out 2).trans rfl; have hcz5_3 : w3.cell? ⟨gb101, 3, none⟩ = some (.int .i64 a0_3) := (blk_cell BK101.out 3).trans rfl; have hcz5_4 : w3.cell? ⟨gb101, 4, none⟩ = some (.int .i64 a0_4) := (blk_cell BK101.out 4).trans rfl; have hcz5_5 : w3.cell? ⟨gb101, 5, none⟩ = some (.int .i64 a0_5) := (blk_cell BK101.out 5).trans rfl; have hcz5_6 : w3.cell? ⟨gb101, 6, none⟩ = some (.int .i64 a0_6) := (blk_cell BK101.out 6).trans rfl; have hfz5_0 := blk_frozen BK101.out 0; have hfz5_1 := blk_frozen BK101.out 1; have hfz5_2 := blk_frozen BK101.out 2; have hfz5_3 := blk_frozen BK101.out 3; have hfz5_4 := blk_frozen BK101.out 4; have hfz5_5 := blk_frozen BK101.out 5; have hfz5_6 := blk_frozen BK101.out 6; have hcz6_0 : w3.cell? ⟨gb102, 0, none⟩ = some (.int .i64 0) := (blk_cell BK102.out 0).trans rfl; have hcz6_1 : w3.cell? ⟨gb102, 1, none⟩ = some (.int .i64 0) := (blk_cell BK102.out 1).trans rfl; have hcz6_2 : w3.cell? ⟨gb102, 2, none⟩ = some (.int .i64 0) := (blk_cell BK102.out 2).trans rfl; have hcz6_3 : w3.cell? ⟨gb102, 3, none⟩ = some (.int .i64 0) := (blk_cell BK102.out 3).trans rfl; have hcz6_4 : w3.cell? ⟨gb102, 4, none⟩ = some (.int .i64 0) := (blk_cell BK102.out 4).trans rfl; have hcz6_5 : w3.cell? ⟨gb102, 5, none⟩ = some (.int .i64 0) := (blk_cell BK102.out 5).trans rfl; have hcz6_6 : w3.cell? ⟨gb102, 6, none⟩ = some (.int .i64 0) := (blk_cell BK102.out 6).trans rfl; have hfz6_0 := blk_frozen BK102.out 0; have hfz6_1 := blk_frozen BK102.out 1; have hfz6_2 := blk_frozen BK102.out 2; have hfz6_3 := blk_frozen BK102.out 3; have hfz6_4 := blk_frozen BK102.out 4; have hfz6_5 := blk_frozen BK102.out 5; have hfz6_6 := blk_frozen BK102.out 6))
 refine bodyPost_ret (results_cell_row rfl _ _ gb102 60 #[.int .i64 a0_0, .int .i64 a0_1, .int .i64 a0_2, .int .i64 a0_3, .int .i64 a0_4, .int .i64 a0_5, .int .i64 a0_6] (0, 0) _ rfl (by (with_reducible repeat (first | refine blk_drewN ?_ _ | refine blk_drew ?_ | refine blk_alloc ?_ _)); refine blk_put (cs := #[.int .i64 a0_0, .int .i64 a0_1, .int .i64 a0_2, .int .i64 a0_3, .int .i64 a0_4, .int .i64 a0_5, .int .i64 0]) ?_ 6 _ rfl; (with_reducible repeat (first | refine blk_drewN ?_ _ | refine blk_drew ?_ | refine blk_alloc ?_ _)); refine blk_put (cs := #[.int .i64 a0_0, .int .i64 a0_1, .int .i64 a0_2, .int .i64 a0_3, .int .i64 a0_4, .int .i64 0, .int .i64 0]) ?_ 5 _ rfl; (with_reducible repeat (first | refine blk_drewN ?_ _ | refine blk_drew ?_ | refine blk_alloc ?_ _)); refine blk_put (cs := #[.int .i64 a0_0, .int .i64 a0_1, .int .i64 a0_2, .int .i64 a0_3, .int .i64 0, .int .i64 0, .int .i64 0]) ?_ 4 _ rfl; (with_reducible repeat (first | refine blk_drewN ?_ _ | refine blk_drew ?_ | refine blk_alloc ?_ _)); refine blk_put (cs := #[.int .i64 a0_0, .int .i64 a0_1, .int .i64 a0_2, .int .i64 0, .int .i64 0, .int .i64 0, .int .i64 0]) ?_ 3 _ rfl; (with_reducible repeat (first | refine blk_drewN ?_ _ | refine blk_drew ?_ | refine blk_alloc ?_ _)); refine blk_put (cs := #[.int .i64 a0_0, .int .i64 a0_1, .int .i64 0, .int .i64 0, .int .i64 0, .int .i64 0, .int .i64 0]) ?_ 2 _ rfl; (with_reducible repeat (first | refine blk_drewN ?_ _ | refine blk_drew ?_ | refine blk_alloc ?_ _)); refine blk_put (cs := #[.int .i64 a0_0, .int .i64 0, .int .i64 0, .int .i64 0, .int .i64 0, .int .i64 0, .int .i64 0]) ?_ 1 _ rfl; (with_reducible repeat (first | refine blk_drewN ?_ _ | refine blk_drew ?_ | refine blk_alloc ?_ _)); refine blk_put (cs := #[.int .i64 0, .int .i64 0, .int .i64 0, .int .i64 0, .int .i64 0, .int .i64 0, .int .i64 0]) ?_ 0 _ rfl; (with_reducible repeat (first | refine blk_drewN ?_ _ | refine blk_drew ?_ | refine blk_alloc ?_ _)); exact BK102.out) Try.underlying60 rfl (by kernel_rfl)) rfl ?_
 exact ⟨by first | rfl | (simp [errW_none, errW_some] <;> rfl) | (simp [*, errW_none, errW_some] <;> rfl), by repeat (first | (with_reducible first | exact HB.out | apply below_alloc | apply pw_below_drewN | apply below_drew1 | refine below_set ?_ GE101.out | refine below_set ?_ GE102.out) | exact HB.out)⟩
def knelllaw24_Ofs.l0 : Nat → List (S60) → List (S54) → Int → Int → Option ((List (S60)))
 | 0, _, _, _, _ => none
 | k + 1, x3, x6, x7, x8 => if x8 < x7 then (if 0 ≤ x8 then (if x8 < (x6.length : Int) then ((knelllaw24_Of.f ((rd_T54 x6 x8).f0) ((rd_T54 x6 x8).f1) ((rd_T54 x6 x8).f2) ((rd_T54 x6 x8).f3) ((rd_T54 x6 x8).f4) ((rd_T54 x6 x8).f5) ((rd_T54 x6 x8).f6)).bind fun bt105 => (if x3.length < 2513169434916 then (knelllaw24_Ofs.l0 k (x3 ++ [(⟨bt105.1, bt105.2.1, bt105.2.2.1, bt105.2.2.2.1, bt105.2.2.2.2.1, bt105.2.2.2.2.2.1, bt105.2.2.2.2.2.2⟩ : S60)]) x6 x7 (wrap64 (x8 + 1))) else (none))) else (none)) else (none)) else (some x3)
def knelllaw24_Ofs.f (k : Nat) (l0 : List (S54)) : Option ((List (S60))) := knelllaw24_Ofs.l0 k ([] : List (S60)) l0 (l0.length : Int) 0
theorem knelllaw24_Ofs.calls (k : Nat) (A0 : Option Addr) (c0 : Nat) (l0 : List (S54)) (r : List (S60)) (w : World) (hr0 : Kd.C k54 w A0 l0.length l0) (hc0 : l0.length ≤ c0) (h : knelllaw24_Ofs.f k l0 = some r) :
  Calls Try.prog 45 #[.slice A0 l0.length c0] w fun e w' => ∃ v0_ : Value, e = .returned (v0_) ∧ Kd.R k60 60 w' w.heap.size (fun _ => True) v0_ r ∧ Below w.heap.size w w' := by
 have hu54 := Try.underlying54
 have HR0 := Aside0.mk hr0
 have HC0 := Aside0.mk hc0
 clear hr0 hc0
 have HB := Aside0.mk (Below.refl w.heap.size w)
 have H : (knelllaw24_Ofs.l0 k ([] : List (S60)) l0 (l0.length : Int) 0) = some r := h
 clear h
 have H' := Aside0.mk H
 clear H
 go_enter Try.func45, Try.ntmps45
 go_wp2
 go_loopg [3, 8] k (fun kq v3 v8 w' => ∃ (x3_1 : List (S60)) (x8_1 : Int), v8 = .int .i64 x8_1 ∧ Aside0 (knelllaw24_Ofs.l0 kq x3_1 l0 (l0.length : Int) x8_1 = some r) ∧ Aside0 (kq ≤ k) ∧ Aside0 (Kd.R k60 60 w' w.heap.size (fun _ => True) v3 x3_1) ∧ Aside0 (Below w.heap.size w w'))
 case atStart => exact ⟨(([] : List (S60))), (0), (by first | rfl | (simp; done) | (simp [*]; done)), H', ⟨Nat.le_refl _⟩, ⟨by first | exact Kd.R_nil _ _ _ _ _ | exact Kd.N_nil _ _ _ _ _ | exact Kd.V_nil _ _ _ _ _ | exact Kd.Q_nil _ _ _ _ _ | exact Kd.S_nil _ _ _ _ _⟩, ⟨by repeat (first | (with_reducible first | exact HB.out | apply below_alloc | apply pw_below_drewN | apply below_drew1) | exact HB.out)⟩⟩
 case round =>
  clear H'
  obtain ⟨x3_1, x8_1, rfl, HA, HK1, HO_3, HB⟩ := hrel
  cases gk with
  | zero => exact absurd HA.out (by simp [knelllaw24_Ofs.l0])
  | succ k1 =>
   have H := HA.out
   clear HA
   simp only [knelllaw24_Ofs.l0] at H
   by_cases c2 : x8_1 < (l0.length : Int)
   ·rw [if_pos c2] at H
    have c2b0 : decide (x8_1 < (l0.length : Int)) = true := decide_eq_true c2
    clear c2
    by_cases c3 : 0 ≤ x8_1
    ·rw [if_pos c3] at H
     have c3b0 : decide (0 ≤ x8_1) = true := decide_eq_true c3
     clear c3
     by_cases c4 : x8_1 < (l0.length : Int)
     ·rw [if_pos c4] at H
      have c4b0 : decide (x8_1 < (l0.length : Int)) = true := decide_eq_true c4
      clear c4
      replace H := Option.bind_eq_some_iff.mp H
      obtain ⟨⟨t105, t106, t107, t108, t109, t110, t111⟩, A50, H⟩ := H
      replace H : (if x3_1.length < 2513169434916 then (knelllaw24_Ofs.l0 k1 (x3_1 ++ [(⟨t105, t106, t107, t108, t109, t110, t111⟩ : S60)]) l0 (l0.length : Int) (wrap64 (x8_1 + 1))) else (none)) = some r := H
      have A5 := Aside0.mk A50
      clear A50
      by_cases c6 : x3_1.length < 2513169434916
      ·rw [if_pos c6] at H
       have LMc6 := Aside0.mk c6
       clear c6
       obtain ⟨y112, hy112⟩ : ∃ y_ : List (S60), y_ = (x3_1 ++ [(⟨t105, t106, t107, t108, t109, t110, t111⟩ : S60)]) := ⟨_, rfl⟩
       replace H : (knelllaw24_Ofs.l0 k1 y112 l0 (l0.length : Int) (wrap64 (x8_1 + 1))) = some r := by first | (rw [hy112]; with_reducible exact H) | (have H2_ := (Option.bind_some _ _).symm.trans H; rw [hy112]; with_reducible exact H2_) | (have H2_ := (Option.bind_some _ _).symm.trans H; with_reducible exact H2_) | with_reducible exact H | (rw [hy112]; exact H) | exact H
       have Ny112 := Aside0.mk hy112
       clear hy112
       have H' := Aside0.mk H
       clear H
       have p103 : 0 ≤ (x8_1 : Int) := of_decide_eq_true (by first | (with_reducible assumption) | assumption)
       have q103 : x8_1 < (l0.length : Int) := of_decide_eq_true (by first | (with_reducible assumption) | assumption)
       obtain ⟨ad103, e103, hx103_0, hx103_1, hx103_2, hx103_3, hx103_4, hx103_5, hx103_6⟩ := at_T54 HR0.out x8_1 p103 q103
       cases e103
       replace hx103_0 := (HB.out.cell (World.block_lt_of_cell? w _ hx103_0)).trans hx103_0
       replace hx103_1 := (HB.out.cell (World.block_lt_of_cell? w _ hx103_1)).trans hx103_1
       replace hx103_2 := (HB.out.cell (World.block_lt_of_cell? w _ hx103_2)).trans hx103_2
       replace hx103_3 := (HB.out.cell (World.block_lt_of_cell? w _ hx103_3)).trans hx103_3
       replace hx103_4 := (HB.out.cell (World.block_lt_of_cell? w _ hx103_4)).trans hx103_4
       replace hx103_5 := (HB.out.cell (World.block_lt_of_cell? w _ hx103_5)).trans hx103_5
       replace hx103_6 := (HB.out.cell (World.block_lt_of_cell? w _ hx103_6)).trans hx103_6
       replace p103 := eq_true p103
       replace q103 := eq_true q103
       go_wp2_with (first | ((with_reducible refine gate_dst (N := 5) rfl ?_); refine box_event ?hg (N := 5) ?hd (cs := #[.int .i64 0, .int .i64 0, .int .i64 0, .int .i64 0, .int .i64 0, .int .i64 0, .int .i64 0]) (t := 54) ?hr ?_; (case hd => rfl); (case hg => rfl); (case hr => first | (go_simp; done) | (go_simp; rfl)); intro gb104 hg w7 hbox hb; have n0_ := Aside0.mk (Kd.R_below (by (with_reducible repeat (first | apply Kd.R_alloc | apply Kd.R_drewN | apply Kd.R_drew)); exact HO_3.out) hb); have n1_ := Aside0.mk (below_step (by repeat (first | (with_reducible first | exact HB.out | apply below_alloc | apply pw_below_drewN | apply below_drew1) | exact HB.out)) hb); have n2_ := Aside0.mk (hbox); have n3_ := Aside0.mk ((by rw [hg]; exact (below_size (by repeat (first | (with_reducible first | exact HB.out | apply below_alloc | apply pw_below_drewN | apply below_drew1) | exact HB.out))) : w.heap.size ≤ gb104)); have n4_ := Aside0.mk ((by rw [hg]; exact (below_size (by repeat (first | (with_reducible first | exact HB.out | apply below_alloc | apply pw_below_drewN | apply below_drew1) | exact HB.out))) : w.heap.size ≤ gb104)); clear HO_3; clear HB; have HO_3 := n0_; have HB := n1_; have BK104 := n2_; have GW104 := n3_; have GE104 := n4_; clear n0_ n1_ n2_ n3_ n4_; clear hb hbox hg; have hcz8_0 : w7.cell? ⟨gb104, 0, none⟩ = some (.int .i64 0) := (blk_cell BK104.out 0).trans rfl; have hcz8_1 : w7.cell? ⟨gb104, 1, none⟩ = some (.int .i64 0) := (blk_cell BK104.out 1).trans rfl; have hcz8_2 : w7.cell? ⟨gb104, 2, none⟩ = some (.int .i64 0) := (blk_cell BK104.out 2).trans rfl; have hcz8_3 : w7.cell? ⟨gb104, 3, none⟩ = some (.int .i64 0) := (blk_cell BK104.out 3).trans rfl; have hcz8_4 : w7.cell? ⟨gb104, 4, none⟩ = some (.int .i64 0) := (blk_cell BK104.out 4).trans rfl; have hcz8_5 : w7.cell? ⟨gb104, 5, none⟩ = some (.int .i64 0) := (blk_cell BK104.out 5).trans rfl; have hcz8_6 : w7.cell? ⟨gb104, 6, none⟩ = some (.int .i64 0) := (blk_cell BK104.out 6).trans rfl; have hfz8_0 := blk_frozen BK104.out 0; have hfz8_1 := blk_frozen BK104.out 1; have hfz8_2 := blk_frozen BK104.out 2; have hfz8_3 := blk_frozen BK104.out 3; have hfz8_4 := blk_frozen BK104.out 4; have hfz8_5 := blk_frozen BK104.out 5; have hfz8_6 := blk_frozen BK104.out 6) | ((with_reducible refine gate_callee (f := 39) rfl ?_); refine goesL_ (some 14) rfl rfl Try.func39 (by kernel_rfl) rfl #[.agg #[.int .i64 ((rd_T54 l0 x8_1).f0), .int .i64 ((rd_T54 l0 x8_1).f1), .int .i64 ((rd_T54 l0 x8_1).f2), .int .i64 ((rd_T54 l0 x8_1).f3), .int .i64 ((rd_T54 l0 x8_1).f4), .int .i64 ((rd_T54 l0 x8_1).f5), .int .i64 ((rd_T54 l0 x8_1).f6)]] rfl (by (try simp only [List.map_toArray, List.map_cons, List.map_nil]); first | done | rfl | (simp only [List.length_drop, List.length_take]; rfl)) ?_; (with_reducible refine (knelllaw24_Of.calls ((rd_T54 l0 x8_1).f0) ((rd_T54 l0 x8_1).f1) ((rd_T54 l0 x8_1).f2) ((rd_T54 l0 x8_1).f3) ((rd_T54 l0 x8_1).f4) ((rd_T54 l0 x8_1).f5) ((rd_T54 l0 x8_1).f6) t105 t106 t107 t108 t109 t110 t111 _ A5.out).mono ?_); rintro e w9 ⟨rfl, hb⟩; refine ⟨_, rfl, ?_⟩; have n0_ := Aside0.mk (Kd.R_below (by (with_reducible repeat (first | apply Kd.R_alloc | apply Kd.R_drewN | apply Kd.R_drew)); exact (Kd.R_mono (Kd.R_far (p := ⟨gb104, 6, none⟩) (Kd.R_far (p := ⟨gb104, 5, none⟩) (Kd.R_far (p := ⟨gb104, 4, none⟩) (Kd.R_far (p := ⟨gb104, 3, none⟩) (Kd.R_far (p := ⟨gb104, 2, none⟩) (Kd.R_far (p := ⟨gb104, 1, none⟩) (Kd.R_far (p := ⟨gb104, 0, none⟩) (Kd.R_types HO_3.out BK104.out (by decide)) (fun _ hk => hk.2) (.int .i64 ((rd_T54 l0 x8_1).f0))) (fun _ hk => hk.2) (.int .i64 ((rd_T54 l0 x8_1).f1))) (fun _ hk => hk.2) (.int .i64 ((rd_T54 l0 x8_1).f2))) (fun _ hk => hk.2) (.int .i64 ((rd_T54 l0 x8_1).f3))) (fun _ hk => hk.2) (.int .i64 ((rd_T54 l0 x8_1).f4))) (fun _ hk => hk.2) (.int .i64 ((rd_T54 l0 x8_1).f5))) (fun _ hk => hk.2) (.int .i64 ((rd_T54 l0 x8_1).f6))) (fun _ h_ => h_.1))) hb); have n1_ := Aside0.mk (blk_below (g := gb104) (o := .cells #[.int .i64 ((rd_T54 l0 x8_1).f0), .int .i64 ((rd_T54 l0 x8_1).f1), .int .i64 ((rd_T54 l0 x8_1).f2), .int .i64 ((rd_T54 l0 x8_1).f3), .int .i64 ((rd_T54 l0 x8_1).f4), .int .i64 ((rd_T54 l0 x8_1).f5), .int .i64 ((rd_T54 l0 x8_1).f6)] 54 (0, 0)) (by (with_reducible repeat (first | refine blk_drewN ?_ _ | refine blk_drew ?_ | refine blk_alloc ?_ _)); refine blk_put (cs := #[.int .i64 ((rd_T54 l0 x8_1).f0), .int .i64 ((rd_T54 l0 x8_1).f1), .int .i64 ((rd_T54 l0 x8_1).f2), .int .i64 ((rd_T54 l0 x8_1).f3), .int .i64 ((rd_T54 l0 x8_1).f4), .int .i64 ((rd_T54 l0 x8_1).f5), .int .i64 0]) ?_ 6 _ rfl; (with_reducible repeat (first | refine blk_drewN ?_ _ | refine blk_drew ?_ | refine blk_alloc ?_ _)); refine blk_put (cs := #[.int .i64 ((rd_T54 l0 x8_1).f0), .int .i64 ((rd_T54 l0 x8_1).f1), .int .i64 ((rd_T54 l0 x8_1).f2), .int .i64 ((rd_T54 l0 x8_1).f3), .int .i64 ((rd_T54 l0 x8_1).f4), .int .i64 0, .int .i64 0]) ?_ 5 _ rfl; (with_reducible repeat (first | refine blk_drewN ?_ _ | refine blk_drew ?_ | refine blk_alloc ?_ _)); refine blk_put (cs := #[.int .i64 ((rd_T54 l0 x8_1).f0), .int .i64 ((rd_T54 l0 x8_1).f1), .int .i64 ((rd_T54 l0 x8_1).f2), .int .i64 ((rd_T54 l0 x8_1).f3), .int .i64 0, .int .i64 0, .int .i64 0]) ?_ 4 _ rfl; (with_reducible repeat (first | refine blk_drewN ?_ _ | refine blk_drew ?_ | refine blk_alloc ?_ _)); refine blk_put (cs := #[.int .i64 ((rd_T54 l0 x8_1).f0), .int .i64 ((rd_T54 l0 x8_1).f1), .int .i64 ((rd_T54 l0 x8_1).f2), .int .i64 0, .int .i64 0, .int .i64 0, .int .i64 0]) ?_ 3 _ rfl; (with_reducible repeat (first | refine blk_drewN ?_ _ | refine blk_drew ?_ | refine blk_alloc ?_ _)); refine blk_put (cs := #[.int .i64 ((rd_T54 l0 x8_1).f0), .int .i64 ((rd_T54 l0 x8_1).f1), .int .i64 0, .int .i64 0, .int .i64 0, .int .i64 0, .int .i64 0]) ?_ 2 _ rfl; (with_reducible repeat (first | refine blk_drewN ?_ _ | refine blk_drew ?_ | refine blk_alloc ?_ _)); refine blk_put (cs := #[.int .i64 ((rd_T54 l0 x8_1).f0), .int .i64 0, .int .i64 0, .int .i64 0, .int .i64 0, .int .i64 0, .int .i64 0]) ?_ 1 _ rfl; (with_reducible repeat (first | refine blk_drewN ?_ _ | refine blk_drew ?_ | refine blk_alloc ?_ _)); refine blk_put (cs := #[.int .i64 0, .int .i64 0, .int .i64 0, .int .i64 0, .int .i64 0, .int .i64 0, .int .i64 0]) ?_ 0 _ rfl; (with_reducible repeat (first | refine blk_drewN ?_ _ | refine blk_drew ?_ | refine blk_alloc ?_ _)); exact BK104.out) hb); have n2_ := Aside0.mk (below_step (by repeat (first | (with_reducible first | exact HB.out | apply below_alloc | apply pw_below_drewN | apply below_drew1 | refine below_set ?_ GE104.out) | exact HB.out)) hb); clear HO_3; clear BK104; clear HB; have HO_3 := n0_; have BK104 := n1_; have HB := n2_; clear n0_ n1_ n2_; (try clear hb); (try clear hb2); (try clear hk); (try clear hi)) | ((with_reducible refine gate_builtin (b := .append) (xs := #[.tmp 12, .tmp 15]) rfl ?_); at_builtin; refine Kd.R_append k60 (w0 := w) w.heap.size rfl (.tmp 12) (.tmp 15) 73 60 (.agg #[(.int .i64 0), (.int .i64 0), (.int .i64 0), (.int .i64 0), (.int .i64 0), (.int .i64 0), (.int .i64 0)]) 56 rfl Try.underlying73 info60 rfl (by decide) (by omega) u3 x3_1 (⟨t105, t106, t107, t108, t109, t110, t111⟩ : S60) [.int .i64 t105, .int .i64 t106, .int .i64 t107, .int .i64 t108, .int .i64 t109, .int .i64 t110, .int .i64 t111] (fun _ => True) (fun _ => False) rfl rfl ?aP (fun _ hk => hk.elim) ?aF ?aO ?aB ?aS ?aL ?_; (case aP => exact k60_mkM _ _ _ (⟨t105, t106, t107, t108, t109, t110, t111⟩ : S60)); (case aB => exact (by repeat (first | (with_reducible first | exact HB.out | apply below_alloc | apply pw_below_drewN | apply below_drew1 | refine below_set ?_ GE104.out) | exact HB.out))); (case aF => exact (fun _ _ => trivial)); (case aO => exact (by (with_reducible repeat (first | apply Kd.R_alloc | apply Kd.R_drewN | apply Kd.R_drew)); exact HO_3.out)); (case aS => exact (below_size (by repeat (first | (with_reducible first | exact HB.out | apply below_alloc | apply pw_below_drewN | apply below_drew1 | refine below_set ?_ GE104.out) | exact HB.out)))); (case aL => have := LMc6.out; omega); intro v113 w10 ho hb hg hat; rw [← Ny112.out] at ho; have n0_ := Aside0.mk (blk_grown (g := gb104) (o := .cells #[.int .i64 ((rd_T54 l0 x8_1).f0), .int .i64 ((rd_T54 l0 x8_1).f1), .int .i64 ((rd_T54 l0 x8_1).f2), .int .i64 ((rd_T54 l0 x8_1).f3), .int .i64 ((rd_T54 l0 x8_1).f4), .int .i64 ((rd_T54 l0 x8_1).f5), .int .i64 ((rd_T54 l0 x8_1).f6)] 54 (0, 0)) (by (with_reducible repeat (first | refine blk_drewN ?_ _ | refine blk_drew ?_ | refine blk_alloc ?_ _)); exact BK104.out) hg (Kd.R_ne HO_3.out BK104.out (by decide))); have n1_ := Aside0.mk (hb); have n2_ := Aside0.mk (ho); clear BK104; clear HB; clear HO_3; have BK104 := n0_; have HB := n1_; have HO114 := n2_; clear n0_ n1_ n2_; clear ho hb hg hat))
       go_roundg k1
       case measure => have := HK1.out; omega
       case rel => exact ⟨(y112), (wrap64 (x8_1 + 1)), (by first | rfl | (simp; done) | (simp [*]; done)), H', ⟨by have := HK1.out; omega⟩, ⟨by (with_reducible repeat (first | apply Kd.R_alloc | apply Kd.R_drewN | apply Kd.R_drew)); exact HO114.out⟩, ⟨by repeat (first | (with_reducible first | exact HB.out | apply below_alloc | apply pw_below_drewN | apply below_drew1 | refine below_set ?_ GE104.out) | exact HB.out)⟩⟩
      ·rw [if_neg c6] at H
       exact absurd H (by simp)
     ·rw [if_neg c4] at H
      exact absurd H (by simp)
    ·rw [if_neg c3] at H
     exact absurd H (by simp)
   ·rw [if_neg c2] at H
    have c2b0 : decide (x8_1 < (l0.length : Int)) = false := decide_eq_false c2
    clear c2
    obtain rfl := Option.some.inj H
    go_wp2
    go_ret
    exact ⟨_, by first | rfl | (simp [errW_none, errW_some] <;> rfl) | (simp [*, errW_none, errW_some] <;> rfl), by (with_reducible repeat (first | apply Kd.R_alloc | apply Kd.R_drewN | apply Kd.R_drew)); exact HO_3.out, by repeat (first | (with_reducible first | exact HB.out | apply below_alloc | apply pw_below_drewN | apply below_drew1) | exact HB.out)⟩
def knelllaw03_Of.f (a0_0 : Int) (a0_1 : Int) (a0_2 : Int) (a0_3 : Int) (a0_4 : Int) (a0_5 : Int) (a0_6 : Int) (a0_7 : Int) (a0_8 : Int) (a0_9 : Int) (a0_10 : Int) (a0_11 : Int) (a0_12 : Int) : Option (Int × Int × Int × Int × Int × Int × Int × Int × Int × Int × Int × Int × Int) := some (a0_0, a0_1, a0_2, a0_3, a0_4, a0_5, a0_6, a0_7, a0_8, a0_9, a0_10, a0_11, a0_12)
theorem knelllaw03_Of.calls (a0_0 : Int) (a0_1 : Int) (a0_2 : Int) (a0_3 : Int) (a0_4 : Int) (a0_5 : Int) (a0_6 : Int) (a0_7 : Int) (a0_8 : Int) (a0_9 : Int) (a0_10 : Int) (a0_11 : Int) (a0_12 : Int) (r1 : Int) (r2 : Int) (r3 : Int) (r4 : Int) (r5 : Int) (r6 : Int) (r7 : Int) (r8 : Int) (r9 : Int) (r10 : Int) (r11 : Int) (r12 : Int) (r13 : Int) (w : World) (h : knelllaw03_Of.f a0_0 a0_1 a0_2 a0_3 a0_4 a0_5 a0_6 a0_7 a0_8 a0_9 a0_10 a0_11 a0_12 = some (r1, r2, r3, r4, r5, r6, r7, r8, r9, r10, r11, r12, r13)) :
  Calls Try.prog 23 #[.agg #[.int .i64 a0_0, .int .i64 a0_1, .int .i64 a0_2, .int .i64 a0_3, .int .i64 a0_4, .int .i64 a0_5, .int .i64 a0_6, .int .i64 a0_7, .int .i64 a0_8, .int .i64 a0_9, .int .i64 a0_10, .int .i64 a0_11, .int .i64 a0_12]] w fun e w' => e = .returned (.agg #[.int .i64 r1, .int .i64 r2, .int .i64 r3, .int .i64 r4, .int .i64 r5, .int .i64 r6, .int .i64 r7, .int .i64 r8, .int .i64 r9, .int .i64 r10, .int .i64 r11, .int .i64 r12, .int .i64 r13]) ∧ Below w.heap.size w w' := by
 have hu33 := Try.underlying33
 have hu36 := Try.underlying36
 have HB := Aside0.mk (Below.refl w.heap.size w)
 have H : (some (a0_0, a0_1, a0_2, a0_3, a0_4, a0_5, a0_6, a0_7, a0_8, a0_9, a0_10, a0_11, a0_12)) = some (r1, r2, r3, r4, r5, r6, r7, r8, r9, r10, r11, r12, r13) := h
 clear h
 simp only [Option.some.injEq, Prod.mk.injEq] at H
 obtain ⟨rfl, rfl, rfl, rfl, rfl, rfl, rfl, rfl, rfl, rfl, rfl, rfl, rfl⟩ := H
 go_enter Try.func23, Try.ntmps23
 go_wp2_with (first | ((with_reducible refine gate_dst (N := 1) rfl ?_); refine box_event ?hg (N := 1) ?hd (cs := #[.int .i64 a0_0, .int .i64 a0_1, .int .i64 a0_2, .int .i64 a0_3, .int .i64 a0_4, .int .i64 a0_5, .int .i64 a0_6, .int .i64 a0_7, .int .i64 a0_8, .int .i64 a0_9, .int .i64 a0_10, .int .i64 a0_11, .int .i64 a0_12]) (t := 33) ?hr ?_; (case hd => rfl); (case hg => rfl); (case hr => first | (go_simp; done) | (go_simp; rfl)); intro gb115 hg w2 hbox hb; have n0_ := Aside0.mk (below_step (by repeat (first | (with_reducible first | exact HB.out | apply below_alloc | apply pw_below_drewN | apply below_drew1) | exact HB.out)) hb); have n1_ := Aside0.mk (hbox); have n2_ := Aside0.mk ((by rw [hg]; exact (below_size (by repeat (first | (with_reducible first | exact HB.out | apply below_alloc | apply pw_below_drewN | apply below_drew1) | exact HB.out))) : w.heap.size ≤ gb115)); have n3_ := Aside0.mk ((by rw [hg]; exact (below_size (by repeat (first | (with_reducible first | exact HB.out | apply below_alloc | apply pw_below_drewN | apply below_drew1) | exact HB.out))) : w.heap.size ≤ gb115)); clear HB; have HB := n0_; have BK115 := n1_; have GW115 := n2_; have GE115 := n3_; clear n0_ n1_ n2_ n3_; clear hb hbox hg) | ((with_reducible refine gate_dst (N := 2) rfl ?_); refine box_event ?hg (N := 2) ?hd (cs := #[.int .i64 0, .int .i64 0, .int .i64 0, .int .i64 0, .int .i64 0, .int .i64 0, .int .i64 0, .int .i64 0, .int .i64 0, .int .i64 0, .int .i64 0, .int .i64 0, .int .i64 0]) (t := 36) ?hr ?_; (case hd => rfl); (case hg => rfl); (case hr => first | (go_simp; done) | (go_simp; rfl)); intro gb116 hg w3 hbox hb; have n0_ := Aside0.mk (blk_below (g := gb115) (o := .cells #[.int .i64 a0_0, .int .i64 a0_1, .int .i64 a0_2, .int .i64 a0_3, .int .i64 a0_4, .int .i64 a0_5, .int .i64 a0_6, .int .i64 a0_7, .int .i64 a0_8, .int .i64 a0_9, .int .i64 a0_10, .int .i64 a0_11, .int .i64 a0_12] 33 (0, 0)) (by (with_reducible repeat (first | refine blk_drewN ?_ _ | refine blk_drew ?_ | refine blk_alloc ?_ _)); exact BK115.out) hb); have n1_ := Aside0.mk (below_step (by repeat (first | (with_reducible first | exact HB.out | apply below_alloc | apply pw_below_drewN | apply below_drew1 | refine below_set ?_ GE115.out) | exact HB.out)) hb); have n2_ := Aside0.mk (hbox); have n3_ := Aside0.mk ((by rw [hg]; exact (below_size (by repeat (first | (with_reducible first | exact HB.out | apply below_alloc | apply pw_below_drewN | apply below_drew1 | refine below_set ?_ GE115.out) | exact HB.out))) : w.heap.size ≤ gb116)); have n4_ := Aside0.mk ((by rw [hg]; exact (below_size (by repeat (first | (with_reducible first | exact HB.out | apply below_alloc | apply pw_below_drewN | apply below_drew1 | refine below_set ?_ GE115.out) | exact HB.out))) : w.heap.size ≤ gb116)); have n5_ := Aside0.mk ((by rw [hg]; exact Nat.ne_of_lt (blk_lt (g := gb115) (o := .cells #[.int .i64 a0_0, .int .i64 a0_1, .int .i64 a0_2, .int .i64 a0_3, .int .i64 a0_4, .int .i64 a0_5, .int .i64 a0_6, .int .i64 a0_7, .int .i64 a0_8, .int .i64 a0_9, .int .i64 a0_10, .int .i64 a0_11, .int .i64 a0_12] 33 (0, 0)) (by (with_reducible repeat (first | refine blk_drewN ?_ _ | refine blk_drew ?_ | refine blk_alloc ?_ _)); exact BK115.out)) : gb115 ≠ gb116)); have n6_ := Aside0.mk ((by rw [hg]; exact Nat.ne_of_gt (blk_lt (g := gb115) (o := .cells #[.int .i64 a0_0, .int .i64 a0_1, .int .i64 a0_2, .int .i64 a0_3, .int .i64 a0_4, .int .i64 a0_5, .int .i64 a0_6, .int .i64 a0_7, .int .i64 a0_8, .int .i64 a0_9, .int .i64 a0_10, .int .i64 a0_11, .int .i64 a0_12] 33 (0, 0)) (by (with_reducible repeat (first | refine blk_drewN ?_ _ | refine blk_drew ?_ | refine blk_alloc ?_ _)); exact BK115.out)) : gb116 ≠ gb115)); clear BK115; clear HB; have BK115 := n0_; have HB := n1_; have BK116 := n2_; have GW116 := n3_; have GE116 := n4_; have NB115_116 := n5_; have NB116_115 := n6_; clear n0_ n1_ n2_ n3_ n4_ n5_ n6_; clear hb hbox hg; have hnb4 := NB115_116.out; have hnc4 := NB116_115.out; have hcz5_0 : w3.cell? ⟨gb115, 0, none⟩ = some (.int .i64 a0_0) := (blk_cell BK115.out 0).trans rfl; have hcz5_1 : w3.cell? ⟨gb115, 1, none⟩ = some (.int .i64 a0_1) := (blk_cell BK115.out 1).trans rfl; have hcz5_2 : w3.cell? ⟨gb115, 2, none⟩ = some (.int .i64 a0_2) := (blk_cell BK115.out 2).trans rfl; have hcz5_3 : w3.cell? ⟨gb115, 3, none⟩ = some (.int .i64 a0_3) := (blk_cell BK115.out 3).trans rfl; have hcz5_4 : w3.cell? ⟨gb115, 4, none⟩ = some (.int .i64 a0_4) := (blk_cell BK115.out 4).trans rfl; have hcz5_5 : w3.cell? ⟨gb115, 5, none⟩ = some (.int .i64 a0_5) := (blk_cell BK115.out 5).trans rfl; have hcz5_6 : w3.cell? ⟨gb115, 6, none⟩ = some (.int .i64 a0_6) := (blk_cell BK115.out 6).trans rfl; have hcz5_7 : w3.cell? ⟨gb115, 7, none⟩ = some (.int .i64 a0_7) := (blk_cell BK115.out 7).trans rfl; have hcz5_8 : w3.cell? ⟨gb115, 8, none⟩ = some (.int .i64 a0_8) := (blk_cell BK115.out 8).trans rfl; have hcz5_9 : w3.cell? ⟨gb115, 9, none⟩ = some (.int .i64 a0_9) := (blk_cell BK115.out 9).trans rfl; have hcz5_10 : w3.cell? ⟨gb115, 10, none⟩ = some (.int .i64 a0_10) := (blk_cell BK115.out 10).trans rfl; have hcz5_11 : w3.cell? ⟨gb115, 11, none⟩ = some (.int .i64 a0_11) := (blk_cell BK115.out 11).trans rfl; have hcz5_12 : w3.cell? ⟨gb115, 12, none⟩ = some (.int .i64 a0_12) := (blk_cell BK115.out 12).trans rfl; have hfz5_0 := blk_frozen BK115.out 0; have hfz5_1 := blk_frozen BK115.out 1; have hfz5_2 := blk_frozen BK115.out 2; have hfz5_3 := blk_frozen BK115.out 3; have hfz5_4 := blk_frozen BK115.out 4; have hfz5_5 := blk_frozen BK115.out 5; have hfz5_6 := blk_frozen BK115.out 6; have hfz5_7 := blk_frozen BK115.out 7; have hfz5_8 := blk_frozen BK115.out 8; have hfz5_9 := blk_frozen BK115.out 9; have hfz5_10 := blk_frozen BK115.out 10; have hfz5_11 := blk_frozen BK115.out 11; have hfz5_12 := blk_frozen BK115.out 12; have hcz6_0 : w3.cell? ⟨gb116, 0, none⟩ = some (.int .i64 0) := (blk_cell BK116.out 0).trans rfl; have hcz6_1 : w3.cell? ⟨gb116, 1, none⟩ = some (.int .i64 0) := (blk_cell BK116.out 1).trans rfl; have hcz6_2 : w3.cell? ⟨gb116, 2, none⟩ = some (.int .i64 0) := (blk_cell BK116.out 2).trans rfl; have hcz6_3 : w3.cell? ⟨gb116, 3, none⟩ = some (.int .i64 0) := (blk_cell BK116.out 3).trans rfl; have hcz6_4 : w3.cell? ⟨gb116, 4, none⟩ = some (.int .i64 0) := (blk_cell BK116.out 4).trans rfl; have hcz6_5 : w3.cell? ⟨gb116, 5, none⟩ = some (.int .i64 0) := (blk_cell BK116.out 5).trans rfl; have hcz6_6 : w3.cell? ⟨gb116, 6, none⟩ = some (.int .i64 0) := (blk_cell BK116.out 6).trans rfl; have hcz6_7 : w3.cell? ⟨gb116, 7, none⟩ = some (.int .i64 0) := (blk_cell BK116.out 7).trans rfl; have hcz6_8 : w3.cell? ⟨gb116, 8, none⟩ = some (.int .i64 0) := (blk_cell BK116.out 8).trans rfl; have hcz6_9 : w3.cell? ⟨gb116, 9, none⟩ = some (.int .i64 0) := (blk_cell BK116.out 9).trans rfl; have hcz6_10 : w3.cell? ⟨gb116, 10, none⟩ = some (.int .i64 0) := (blk_cell BK116.out 10).trans rfl; have hcz6_11 : w3.cell? ⟨gb116, 11, none⟩ = some (.int .i64 0) := (blk_cell BK116.out 11).trans rfl; have hcz6_12 : w3.cell? ⟨gb116, 12, none⟩ = some (.int .i64 0) := (blk_cell BK116.out 12).trans rfl; have hfz6_0 := blk_frozen BK116.out 0; have hfz6_1 := blk_frozen BK116.out 1; have hfz6_2 := blk_frozen BK116.out 2; have hfz6_3 := blk_frozen BK116.out 3; have hfz6_4 := blk_frozen BK116.out 4; have hfz6_5 := blk_frozen BK116.out 5; have hfz6_6 := blk_frozen BK116.out 6; have hfz6_7 := blk_frozen BK116.out 7; have hfz6_8 := blk_frozen BK116.out 8; have hfz6_9 := blk_frozen BK116.out 9; have hfz6_10 := blk_frozen BK116.out 10; have hfz6_11 := blk_frozen BK116.out 11; have hfz6_12 := blk_frozen BK116.out 12))
 refine bodyPost_ret (results_cell_row rfl _ _ gb116 36 #[.int .i64 a0_0, .int .i64 a0_1, .int .i64 a0_2, .int .i64 a0_3, .int .i64 a0_4, .int .i64 a0_5, .int .i64 a0_6, .int .i64 a0_7, .int .i64 a0_8, .int .i64 a0_9, .int .i64 a0_10, .int .i64 a0_11, .int .i64 a0_12] (0, 0) _ rfl (by (with_reducible repeat (first | refine blk_drewN ?_ _ | refine blk_drew ?_ | refine blk_alloc ?_ _)); refine blk_put (cs := #[.int .i64 a0_0, .int .i64 a0_1, .int .i64 a0_2, .int .i64 a0_3, .int .i64 a0_4, .int .i64 a0_5, .int .i64 a0_6, .int .i64 a0_7, .int .i64 a0_8, .int .i64 a0_9, .int .i64 a0_10, .int .i64 a0_11, .int .i64 0]) ?_ 12 _ rfl; (with_reducible repeat (first | refine blk_drewN ?_ _ | refine blk_drew ?_ | refine blk_alloc ?_ _)); refine blk_put (cs := #[.int .i64 a0_0, .int .i64 a0_1, .int .i64 a0_2, .int .i64 a0_3, .int .i64 a0_4, .int .i64 a0_5, .int .i64 a0_6, .int .i64 a0_7, .int .i64 a0_8, .int .i64 a0_9, .int .i64 a0_10, .int .i64 0, .int .i64 0]) ?_ 11 _ rfl; (with_reducible repeat (first | refine blk_drewN ?_ _ | refine blk_drew ?_ | refine blk_alloc ?_ _)); refine blk_put (cs := #[.int .i64 a0_0, .int .i64 a0_1, .int .i64 a0_2, .int .i64 a0_3, .int .i64 a0_4, .int .i64 a0_5, .int .i64 a0_6, .int .i64 a0_7, .int .i64 a0_8, .int .i64 a0_9, .int .i64 0, .int .i64 0, .int .i64 0]) ?_ 10 _ rfl; (with_reducible repeat (first | refine blk_drewN ?_ _ | refine blk_drew ?_ | refine blk_alloc ?_ _)); refine blk_put (cs := #[.int .i64 a0_0, .int .i64 a0_1, .int .i64 a0_2, .int .i64 a0_3, .int .i64 a0_4, .int .i64 a0_5, .int .i64 a0_6, .int .i64 a0_7, .int .i64 a0_8, .int .i64 0, .int .i64 0, .int .i64 0, .int .i64 0]) ?_ 9 _ rfl; (with_reducible repeat (first | refine blk_drewN ?_ _ | refine blk_drew ?_ | refine blk_alloc ?_ _)); refine blk_put (cs := #[.int .i64 a0_0, .int .i64 a0_1, .int .i64 a0_2, .int .i64 a0_3, .int .i64 a0_4, .int .i64 a0_5, .int .i64 a0_6, .int .i64 a0_7, .int .i64 0, .int .i64 0, .int .i64 0, .int .i64 0, .int .i64 0]) ?_ 8 _ rfl; (with_reducible repeat (first | refine blk_drewN ?_ _ | refine blk_drew ?_ | refine blk_alloc ?_ _)); refine blk_put (cs := #[.int .i64 a0_0, .int .i64 a0_1, .int .i64 a0_2, .int .i64 a0_3, .int .i64 a0_4, .int .i64 a0_5, .int .i64 a0_6, .int .i64 0, .int .i64 0, .int .i64 0, .int .i64 0, .int .i64 0, .int .i64 0]) ?_ 7 _ rfl; (with_reducible repeat (first | refine blk_drewN ?_ _ | refine blk_drew ?_ | refine blk_alloc ?_ _)); refine blk_put (cs := #[.int .i64 a0_0, .int .i64 a0_1, .int .i64 a0_2, .int .i64 a0_3, .int .i64 a0_4, .int .i64 a0_5, .int .i64 0, .int .i64 0, .int .i64 0, .int .i64 0, .int .i64 0, .int .i64 0, .int .i64 0]) ?_ 6 _ rfl; (with_reducible repeat (first | refine blk_drewN ?_ _ | refine blk_drew ?_ | refine blk_alloc ?_ _)); refine blk_put (cs := #[.int .i64 a0_0, .int .i64 a0_1, .int .i64 a0_2, .int .i64 a0_3, .int .i64 a0_4, .int .i64 0, .int .i64 0, .int .i64 0, .int .i64 0, .int .i64 0, .int .i64 0, .int .i64 0, .int .i64 0]) ?_ 5 _ rfl; (with_reducible repeat (first | refine blk_drewN ?_ _ | refine blk_drew ?_ | refine blk_alloc ?_ _)); refine blk_put (cs := #[.int .i64 a0_0, .int .i64 a0_1, .int .i64 a0_2, .int .i64 a0_3, .int .i64 0, .int .i64 0, .int .i64 0, .int .i64 0, .int .i64 0, .int .i64 0, .int .i64 0, .int .i64 0, .int .i64 0]) ?_ 4 _ rfl; (with_reducible repeat (first | refine blk_drewN ?_ _ | refine blk_drew ?_ | refine blk_alloc ?_ _)); refine blk_put (cs := #[.int .i64 a0_0, .int .i64 a0_1, .int .i64 a0_2, .int .i64 0, .int .i64 0, .int .i64 0, .int .i64 0, .int .i64 0, .int .i64 0, .int .i64 0, .int .i64 0, .int .i64 0, .int .i64 0]) ?_ 3 _ rfl; (with_reducible repeat (first | refine blk_drewN ?_ _ | refine blk_drew ?_ | refine blk_alloc ?_ _)); refine blk_put (cs := #[.int .i64 a0_0, .int .i64 a0_1, .int .i64 0, .int .i64 0, .int .i64 0, .int .i64 0, .int .i64 0, .int .i64 0, .int .i64 0, .int .i64 0, .int .i64 0, .int .i64 0, .int .i64 0]) ?_ 2 _ rfl; (with_reducible repeat (first | refine blk_drewN ?_ _ | refine blk_drew ?_ | refine blk_alloc ?_ _)); refine blk_put (cs := #[.int .i64 a0_0, .int .i64 0, .int .i64 0, .int .i64 0, .int .i64 0, .int .i64 0, .int .i64 0, .int .i64 0, .int .i64 0, .int .i64 0, .int .i64 0, .int .i64 0, .int .i64 0]) ?_ 1 _ rfl; (with_reducible repeat (first | refine blk_drewN ?_ _ | refine blk_drew ?_ | refine blk_alloc ?_ _)); refine blk_put (cs := #[.int .i64 0, .int .i64 0, .int .i64 0, .int .i64 0, .int .i64 0, .int .i64 0, .int .i64 0, .int .i64 0, .int .i64 0, .int .i64 0, .int .i64 0, .int .i64 0, .int .i64 0]) ?_ 0 _ rfl; (with_reducible repeat (first | refine blk_drewN ?_ _ | refine blk_drew ?_ | refine blk_alloc ?_ _)); exact BK116.out) Try.underlying36 rfl (by kernel_rfl)) rfl ?_
 exact ⟨by first | rfl | (simp [errW_none, errW_some] <;> rfl) | (simp [*, errW_none, errW_some] <;> rfl), by repeat (first | (with_reducible first | exact HB.out | apply below_alloc | apply pw_below_drewN | apply below_drew1 | refine below_set ?_ GE115.out | refine below_set ?_ GE116.out) | exact HB.out)⟩
end Go.Proofs.Ythljanmfanppdaa.KLa
end
section
namespace Go.Proofs.Ythljanmfanppdaa.Bk
open Go.RowKit Go.Maps Go.Proofs.YthljanmfanppdaaW.PrintWords Go.Proofs.YthljanmfanppdaaW.PrintLast Go.Proofs.YthljanmfanppdaaW.PrintMore Go.Proofs.Ythljanmfanppdaa.Mp Go.Proofs.Ythljanmfanppdaa.KLa
set_option linter.unusedVariables false
set_option linter.unusedSimpArgs false
section
variable {w W W1 : World} {g m n : Nat} {c : Cf} {clk : Int} {F : SM}
end
theorem of_calls (c : Cf) (W : World) : Calls Try.prog 23 #[.agg c.cells] W fun e w' => e = .returned (.agg c.cells) ∧ Below W.heap.size W w' :=
 knelllaw03_Of.calls _ _ _ _ _ _ _ _ _ _ _ _ _ _ _ _ _ _ _ _ _ _ _ _ _ _ W rfl
theorem cright_calls (c : Cf) (W : World) : Calls Try.prog 22 #[.agg c.cells] W fun e w' => e = .returned (.bool (cfCode c == 0)) ∧ Below W.heap.size W w' :=
 KBack.knellref03_Right.calls _ _ _ _ _ _ _ _ _ _ _ _ _ _ W (PureLk.right_is _ _ _ _ _ _ _ _ _ _ _ _ _)
end Go.Proofs.Ythljanmfanppdaa.Bk
end
section
namespace Go.Proofs.Ythljanmfanppdaa.KVs
open Go.RowKit Go.Proofs.YthljanmfanppdaaW.PrintWords Go.Proofs.YthljanmfanppdaaW.PrintLast Go.Proofs.YthljanmfanppdaaW.PrintMore
attribute [local go_sem] max2_int min2_int max_two min_two max_three min_three max_four min_four   -- for this text's walks alone
set_option linter.unusedVariables false
set_option linter.unusedSimpArgs false
def errW : Option Int → Value
 | none => .nilIface
 | some c => .iface 0 (.int .i64 c)
theorem errW_none : errW none = .nilIface := rfl
theorem errW_some (c : Int) : errW (some c) = .iface 0 (.int .i64 c) := rfl
theorem info60 : (Try.prog.info? 60).map (fun i => (i.zero, i.size, i.bytes)) = some (some (.agg #[(.int .i64 0), (.int .i64 0), (.int .i64 0), (.int .i64 0), (.int .i64 0), (.int .i64 0), (.int .i64 0)]), 7, 56) := by kernel_rfl
structure S60 where
 f0 : Int
 f1 : Int
 f2 : Int
 f3 : Int
 f4 : Int
 f5 : Int
 f6 : Int
def z60 : S60 := ⟨(0 : Int), (0 : Int), (0 : Int), (0 : Int), (0 : Int), (0 : Int), (0 : Int)⟩
def k60 : Kd S60 := Kd.iso (Kd.pair (Kd.int .i64) (Kd.pair (Kd.int .i64) (Kd.pair (Kd.int .i64) (Kd.pair (Kd.int .i64) (Kd.pair (Kd.int .i64) (Kd.pair (Kd.int .i64) (Kd.int .i64))))))) (fun x : S60 => (x.f0, x.f1, x.f2, x.f3, x.f4, x.f5, x.f6))
theorem k60_open {w : World} {x : S60} {cs : List Value} (h : k60.K w x cs) : cs = [.int .i64 x.f0, .int .i64 x.f1, .int .i64 x.f2, .int .i64 x.f3, .int .i64 x.f4, .int .i64 x.f5, .int .i64 x.f6] := by
 obtain ⟨_, _, rfl, rfl, ⟨_, _, rfl, rfl, ⟨_, _, rfl, rfl, ⟨_, _, rfl, rfl, ⟨_, _, rfl, rfl, ⟨_, _, rfl, rfl, rfl⟩⟩⟩⟩⟩⟩ := h
 exact rfl
theorem k60_mkM (w : World) (base : Nat) (ok : Nat → Prop) (x : S60)  : k60.M w base ok x [.int .i64 x.f0, .int .i64 x.f1, .int .i64 x.f2, .int .i64 x.f3, .int .i64 x.f4, .int .i64 x.f5, .int .i64 x.f6] := ⟨[.int .i64 x.f0], [.int .i64 x.f1, .int .i64 x.f2, .int .i64 x.f3, .int .i64 x.f4, .int .i64 x.f5, .int .i64 x.f6], rfl, rfl, ⟨[.int .i64 x.f1], [.int .i64 x.f2, .int .i64 x.f3, .int .i64 x.f4, .int .i64 x.f5, .int .i64 x.f6], rfl, rfl, ⟨[.int .i64 x.f2], [.int .i64 x.f3, .int .i64 x.f4, .int .i64 x.f5, .int .i64 x.f6], rfl, rfl, ⟨[.int .i64 x.f3], [.int .i64 x.f4, .int .i64 x.f5, .int .i64 x.f6], rfl, rfl, ⟨[.int .i64 x.f4], [.int .i64 x.f5, .int .i64 x.f6], rfl, rfl, ⟨[.int .i64 x.f5], [.int .i64 x.f6], rfl, rfl, rfl⟩⟩⟩⟩⟩⟩
def rd_T60 (xs : List S60) (i : Int) : S60 := xs.getD i.toNat z60
theorem at_T60 {w : World} {A : Option Addr} {n : Nat} {xs : List S60} (h : Kd.C k60 w A n xs) (i : Int) (h0 : 0 ≤ i) (h1 : i < n) : ∃ ad , A = some ad ∧ w.cell? (ad.add (i.toNat * 7)) = some (.int .i64 (rd_T60 xs i).f0) ∧ w.cell? ⟨(ad.add (i.toNat * 7)).block, (ad.add (i.toNat * 7)).off + 1, none⟩ = some (.int .i64 (rd_T60 xs i).f1) ∧ w.cell? ⟨(ad.add (i.toNat * 7)).block, (ad.add (i.toNat * 7)).off + 2, none⟩ = some (.int .i64 (rd_T60 xs i).f2) ∧ w.cell? ⟨(ad.add (i.toNat * 7)).block, (ad.add (i.toNat * 7)).off + 3, none⟩ = some (.int .i64 (rd_T60 xs i).f3) ∧ w.cell? ⟨(ad.add (i.toNat * 7)).block, (ad.add (i.toNat * 7)).off + 4, none⟩ = some (.int .i64 (rd_T60 xs i).f4) ∧ w.cell? ⟨(ad.add (i.toNat * 7)).block, (ad.add (i.toNat * 7)).off + 5, none⟩ = some (.int .i64 (rd_T60 xs i).f5) ∧ w.cell? ⟨(ad.add (i.toNat * 7)).block, (ad.add (i.toNat * 7)).off + 6, none⟩ = some (.int .i64 (rd_T60 xs i).f6) := by
 obtain ⟨ad, c, e, _, hK, hc0⟩ := Kd.C_get h z60 i h0 h1
 have hc : ∀ j u, c[j]? = some u → w.cell? (ad.add (i.toNat * 7 + j)) = some u := hc0
 obtain rfl := k60_open hK
 exact ⟨ad, e, hc 0 _ rfl, by rw [← add_field _ _ 1 (by omega)]; exact hc 1 _ rfl, by rw [← add_field _ _ 2 (by omega)]; exact hc 2 _ rfl, by rw [← add_field _ _ 3 (by omega)]; exact hc 3 _ rfl, by rw [← add_field _ _ 4 (by omega)]; exact hc 4 _ rfl, by rw [← add_field _ _ 5 (by omega)]; exact hc 5 _ rfl, by rw [← add_field _ _ 6 (by omega)]; exact hc 6 _ rfl⟩
end Go.Proofs.Ythljanmfanppdaa.KVs
end
section
namespace Go.Proofs.Ythljanmfanppdaa.KVs
open Go.RowKit Go.Proofs.YthljanmfanppdaaW.PrintWords Go.Proofs.YthljanmfanppdaaW.PrintLast Go.Proofs.YthljanmfanppdaaW.PrintMore
attribute [local go_sem] max2_int min2_int max_two min_two max_three min_three max_four min_four   -- for this text's walks alone
set_option linter.unusedVariables false
set_option linter.unusedSimpArgs false
def verdict_Late.ev (x : S60) : Go.Proofs.Ythljanmfanppdaa.Bk.Ev7 := ⟨x.f0, x.f1, x.f2, x.f3, x.f4, x.f5, x.f6⟩
def verdict_Late.wf (x : S60) : Bool := (Lit.int .i64 x.f3).wf && (Lit.int .i64 x.f1).wf
def verdict_Late.f (l0 : List S60) (a1_0 : Int) (a1_1 : Int) (a1_2 : Int) (a1_3 : Int) (a1_4 : Int) (a1_5 : Int) (a1_6 : Int) (a1_7 : Int) (a1_8 : Int) (a1_9 : Int) (a1_10 : Int) (a1_11 : Int) (a1_12 : Int) : Option (List Int) := if l0.length ≤ 200000 ∧ l0.all verdict_Late.wf = true then some (Go.Proofs.Ythljanmfanppdaa.Vd.lateV ⟨a1_0, a1_1, a1_2, a1_3, a1_4, a1_5, a1_6, a1_7, a1_8, a1_9, a1_10, a1_11, a1_12⟩ (l0.map verdict_Late.ev)) else none
theorem verdict_Late.calls (A0 : Option Addr) (c0 : Nat) (l0 : List S60) (a1_0 : Int) (a1_1 : Int) (a1_2 : Int) (a1_3 : Int) (a1_4 : Int) (a1_5 : Int) (a1_6 : Int) (a1_7 : Int) (a1_8 : Int) (a1_9 : Int) (a1_10 : Int) (a1_11 : Int) (a1_12 : Int) (r : List Int) (w : World) (hr0 : Kd.C k60 w A0 l0.length l0) (hc0 : l0.length ≤ c0) (h : verdict_Late.f l0 a1_0 a1_1 a1_2 a1_3 a1_4 a1_5 a1_6 a1_7 a1_8 a1_9 a1_10 a1_11 a1_12 = some r) :
  Calls Try.prog 48 #[.slice A0 l0.length c0, .agg #[.int .i64 a1_0, .int .i64 a1_1, .int .i64 a1_2, .int .i64 a1_3, .int .i64 a1_4, .int .i64 a1_5, .int .i64 a1_6, .int .i64 a1_7, .int .i64 a1_8, .int .i64 a1_9, .int .i64 a1_10, .int .i64 a1_11, .int .i64 a1_12]] w fun e w' => ∃ v0_ : Value, e = .returned (v0_) ∧ Kd.R (Kd.int .i64) 3 w' w.heap.size (fun _ => True) v0_ r ∧ Below w.heap.size w w' := by
 unfold verdict_Late.f at h
 split at h
 ·rename_i hs
  cases h
  have h1 := Go.Proofs.Ythljanmfanppdaa.Vd.vlate_any A0 c0 ⟨a1_0, a1_1, a1_2, a1_3, a1_4, a1_5, a1_6, a1_7, a1_8, a1_9, a1_10, a1_11, a1_12⟩ (l0.map verdict_Late.ev) (by rw [List.length_map]; exact hs.1) w (fun i e he => by
   rw [List.getElem?_map] at he
   obtain ⟨x, hx, rfl⟩ := Option.map_eq_some_iff.1 he
   have hi : i < l0.length := (List.getElem?_eq_some_iff.1 hx).1
   have hrd : rd_T60 l0 (i : Int) = x := by
    show l0.getD i z60 = x
    rw [List.getD_eq_getElem?_getD, hx]; rfl
   have hat := at_T60 hr0 (i : Int) (by omega) (by omega)
   rw [hrd] at hat
   exact hat) (fun e he => by
   obtain ⟨x, hx, rfl⟩ := List.mem_map.1 he
   have h2 := List.all_eq_true.1 hs.2 x hx
   unfold verdict_Late.wf at h2
   rw [Bool.and_eq_true] at h2
   exact h2)
  rw [List.length_map] at h1
  refine h1.mono ?_
  rintro e w' ⟨v, rfl, hR, hb⟩
  exact ⟨v, rfl, Go.Proofs.Ythljanmfanppdaa.Vd.ints_R hR, hb⟩
 ·cases h
end Go.Proofs.Ythljanmfanppdaa.KVs
end
