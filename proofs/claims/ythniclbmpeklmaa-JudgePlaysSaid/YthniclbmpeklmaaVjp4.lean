/- What is proved: a part of the way to the statement JudgePlaysSaid: JuF, JuG, JuS, KJfx0, KJfx1, KJfx2; no conditions. Put together by a program of this session (claimv.py). -/
import Derived.Test.YthniclbmpeklmaaProg
import Derived.Below
import Derived.Deep.Draws
import Derived.Deep.AppendLies
import Derived.Maps.AppendAt
import Derived.OwnWalk
import Derived.Laws.BytesArg
import Derived.Laws.MakeOwn
import Derived.Laws.OwnMore
import Derived.Deep.OwnRows
import Derived.Tactics
import Derived.Lib.ConvBytes
import Derived.Laws.Slices
import Derived.WalkKit
import Derived.KernelRfl
import Derived.RowKit3
import Derived.Deep.LoopGhost
import Derived.Deep.QuietTactic
import Derived.BigQuiet
import Derived.WideLaws
import Derived.Deep.DeepCutAuto
import Derived.Deep.CutBlock
import Derived.Deep.RegionHeld3
import Derived.Laws.Rows
import Derived.Lib.AppendStr
import Derived.ArgAppend
import Derived.Laws.IdiomCopy
import Derived.OrdersHeld
import Derived.Laws.BitsLemmas
import Derived.RowKit
import Derived.Test.YthniclbmpeklmaaVjp3
section
set_option maxHeartbeats 4000000
set_option maxRecDepth 100000
namespace Go.Proofs.Ythniclbmpeklmaa.Ju
open Go.RowKit Go.Maps Go.Proofs.YthniclbmpeklmaaW.PrintWords Go.Proofs.YthniclbmpeklmaaW.PrintLast Go.Proofs.YthniclbmpeklmaaW.PrintMore Go.Proofs.Ythniclbmpeklmaa.Mp Go.Proofs.Ythniclbmpeklmaa.Au
set_option linter.unusedVariables false
set_option linter.unusedSimpArgs false
attribute [local go_sem high] Ev.eqHa
theorem wp_store {κ : Type} [DecidableEq κ] {c : κ → Value} {P : Program} {k e : TypeId} {w : World} {b s : Nat} {f : κ → Option Value} {o : Oper} {a : Act} {K : Act → World → Prop} {Q : Exit → Act → World → Prop} (hc : ∀ x y, c x = c y → x = y) (m x v : Operand) (t : TypeId) (hop : o.op = Op.mapUpdate t m x v) (h : MapIs c P k w b s f) (KK : Keyed P k) (ht : P.underlying t = some (.map k e)) (hn : s < maxLen) {y : κ} {kl : Lit} (hkey : keyOf P k (c y) = some kl) {val : Value}
  (hm : a.eval m = .map (some b)) (hx : a.eval x = c y) (hv : a.eval v = val) (hK : ∀ w', MapIs c P k w' b (if (f y).isSome then s else s + 1) (fun l => if l = y then some val else f l) → w.grownBy w' (some b) → K (a.put o.dst undef) w') : o.wp P a w K Q := by
 obtain ⟨w', hrun, h1, h2⟩ := h.store hc KK ht hn hkey val
 unfold Oper.wp
 simp [execOp, hop, hm, hx, hv, hrun, Result.andThen]
 exact hK w' h1 h2.grown
theorem bpoint_any {w : World} {B b n mb m1 m2 m3 g : Nat} {s : Be} {pf : Int → Option Nat} {k : Wk} (e : Ev) (hw : (Lit.int .i64 e.hn).wf = true ∧ (Lit.int .i64 e.hg).wf = true ∧ (Lit.int .i64 e.nn).wf = true ∧ (Lit.int .i64 e.ng).wf = true) (hn : n + 1 ≤ 1000000) (hwl : ∀ x, (Lit.int .i64 ((s.m.lst x).getD 0)).wf = true) (h : BeIs w B b n s mb m1 m2 m3 pf) (hB : B ≤ w.heap.size) (hk : s.wks e.wk = some k) (hp : pf e.wk = some g) :
  Calls Try.prog 66 #[pA b, pA g, .agg (evA e)] w (BePost w B b n mb m1 m2 m3 (pointB s k e)) := by
 obtain ⟨g0, hp0, hBg, iv, pp, hgb, e1, e2, e3, e4, hpt⟩ := h.busy hk
 obtain rfl : g0 = g := Option.some.inj (hp0.symm.trans hp)
 rcases hpt with ⟨rfl, hpt⟩ | ⟨q, ev, rfl, _, _, hpt⟩
 ·have hh : k.hn = iv.hn ∧ k.hg = iv.hg ∧ k.t = iv.t := ⟨e2.symm, e3.symm, e4.symm⟩
  by_cases ho : e.op = 1
  ·by_cases h0 : e.er = 0
   ·cases hwb : (withinB e.t iv.t k.beg s.m.clk) with
    | false => exact bpoint_m1_late e iv hw hn hwl h hB hk hp hgb hBg hpt hh ho h0 hwb
    | true =>
     by_cases hc : (doF s.m e).2 = 0
     ·exact bpoint_m1_ok e iv hw hn hwl h hB hk hp hgb hBg hpt hh ho h0 hwb hc
     ·exact bpoint_m1_fail e iv hw hn hwl h hB hk hp hgb hBg hpt hh ho h0 hwb hc
   ·by_cases hc : (doF s.m e).2 = 0
    ·exact bpoint_n0_ok e iv hw hn hwl h hB hk hp hgb hBg hpt hh ho h0 hc
    ·exact bpoint_n0_fail e iv hw hn hwl h hB hk hp hgb hBg hpt hh ho h0 hc
  ·by_cases h0 : e.er = 0
   ·by_cases h3 : e.op = 3
    ·cases hq : (e.hn == iv.hn && (e.hg == iv.hg)) with
     | false => exact bpoint_m3_no e iv hw hn hwl h hB hk hp hgb hBg hpt hh h3 h0 hq
     | true =>
      cases hwb : (withinB e.t iv.t k.beg s.m.clk) with
      | false => exact bpoint_m3_late e iv hw hn hwl h hB hk hp hgb hBg hpt hh h3 h0 hq hwb
      | true =>
       by_cases hc : (doF s.m e).2 = 0
       ·exact bpoint_m3_ok e iv hw hn hwl h hB hk hp hgb hBg hpt hh h3 h0 hq hwb hc
       ·exact bpoint_m3_fail e iv hw hn hwl h hB hk hp hgb hBg hpt hh h3 h0 hq hwb hc
    ·cases hq : (e.hn == iv.hn && (e.hg == iv.hg)) with
     | false => exact bpoint_n1_no e iv hw hn hwl h hB hk hp hgb hBg hpt hh ho h3 h0 hq
     | true =>
      by_cases hc : (doF s.m e).2 = 0
      ·exact bpoint_n1_ok e iv hw hn hwl h hB hk hp hgb hBg hpt hh ho h3 h0 hq hc
      ·exact bpoint_n1_fail e iv hw hn hwl h hB hk hp hgb hBg hpt hh ho h3 h0 hq hc
   ·cases hq : (e.hn == iv.hn && (e.hg == iv.hg)) with
    | false => exact bpoint_n0x_no e iv hw hn hwl h hB hk hp hgb hBg hpt hh ho h0 hq
    | true =>
     by_cases hc : (doF s.m e).2 = 0
     ·exact bpoint_n0x_ok e iv hw hn hwl h hB hk hp hgb hBg hpt hh ho h0 hq hc
     ·exact bpoint_n0x_fail e iv hw hn hwl h hB hk hp hgb hBg hpt hh ho h0 hq hc
 ·exact bpoint_again e iv hw hn hwl h hB hk hp hgb hBg (by rw [hpt]; rfl)
def heR.T1 : Bool × List (List Nat × List Nat) := (true, [([], []), ([0], [0]), ([1], [1]), ([2, 1], [2]), ([3], [3]), ([4, 3], [3, 4]), ([3], [3]), ([6, 3], [3, 6]), ([7, 3], [3, 7]), ([8, 3], [3, 8]), ([5, 9, 3], [3, 5, 9]), ([3, 10], [3, 10])])
def heR.B1 : List Nat := [0, 1, 3, 7, 15, 31, 15, 79, 207, 463, 1023, 2047]
theorem heR.tab1 : rtab .any (opsOf Try.f29 1) = heR.T1 := by kernel_rfl
theorem heR.bits1 : waitsOk heR.T1.2 heR.B1 = true := by kernel_rfl
def heR.T6 : Bool × List (List Nat × List Nat) := (true, [([], []), ([0], [0]), ([1], [1]), ([2], [2]), ([], []), ([3, 4], [3, 4]), ([5, 5, 0, 1, 2, 3, 4, 5], [5])])
def heR.B6 : List Nat := [0, 1, 3, 7, 0, 31, 63]
theorem heR.tab6 : rtab .any (opsOf Try.f29 6) = heR.T6 := by kernel_rfl
theorem heR.bits6 : waitsOk heR.T6.2 heR.B6 = true := by kernel_rfl
def heR.T10 : Bool × List (List Nat × List Nat) := (true, [([], []), ([0], [0]), ([1], [1]), ([2], [2]), ([], []), ([4], [4]), ([], []), ([], []), ([7], [7]), ([8], [8]), ([9], [9]), ([10], [10]), ([6, 11], [6, 11]), ([12], [12]), ([3, 5, 13, 11, 0, 1, 2, 3, 4, 5, 6, 7, 8, 9, 10, 11, 12, 13], [3, 5, 13])])
def heR.B10 : List Nat := [0, 1, 3, 7, 0, 16, 0, 0, 128, 384, 896, 1920, 4032, 8128, 16383]
theorem heR.tab10 : rtab .any (opsOf Try.f29 10) = heR.T10 := by kernel_rfl
theorem heR.bits10 : waitsOk heR.T10.2 heR.B10 = true := by kernel_rfl
def heR.T15 : Bool × List (List Nat × List Nat) := (true, [([], []), ([0], [0]), ([1], [1]), ([2], [2]), ([], []), ([3, 4], [3, 4]), ([5, 5, 0, 1, 2, 3, 4, 5], [5])])
def heR.B15 : List Nat := [0, 1, 3, 7, 0, 31, 63]
theorem heR.tab15 : rtab .any (opsOf Try.f29 15) = heR.T15 := by kernel_rfl
theorem heR.bits15 : waitsOk heR.T15.2 heR.B15 = true := by kernel_rfl
theorem hear_wrong {w : World} {B b n mb m1 m2 m3 : Nat} {s : Be} {pf : Int → Option Nat} (e : Ev) (hw : (Lit.int .i64 e.hn).wf = true ∧ (Lit.int .i64 e.hg).wf = true ∧ (Lit.int .i64 e.nn).wf = true ∧ (Lit.int .i64 e.ng).wf = true) (hwk : (Lit.int .i64 e.wk).wf = true) (hn : n + 4 ≤ 1000000) (hwl : ∀ x, (Lit.int .i64 ((s.m.lst x).getD 0)).wf = true) (h : BeIs w B b n s mb m1 m2 m3 pf) (hB : B ≤ w.heap.size) (hr : rightJ e = false)  :
  Calls Try.prog 29 #[pA b, .agg (evA e)] w (BePost w B b n mb m1 m2 m3 (hearF s e)) := by
 have hu0 := Try.underlying61
 have hu1 := Try.underlying34
 have hu2 := Try.underlying54
 have hu3 := Try.underlying119
 have HF := Aside0.mk (show hearF s e = (s, 8) by unfold hearF; rw [if_pos (.inl hr)])
 have CR := Aside0.mk (fun W => right_run e W)
 rw [hr] at CR
 have HW := Aside0.mk hw
 have HWK := Aside0.mk hwk
 have HN := Aside0.mk hn
 have HWL := Aside0.mk hwl
 have HJ := Aside0.mk (Bj.start h hB e)
 clear hw hwk hn hwl h hB hr 
 have hcb := fun i => HJ.out.be.cell i
 have hce := fun i => blk_cell HJ.out.eb_ i
 have hlb := HJ.out.be.lt
 have hle := blk_lt HJ.out.eb_
 go_enter Try.func29, Try.ntmps29
 go_upto_region 1 with (fail)
 refine start_ (n := 12) (S := (fun w' => (∀ i, w'.cell? ⟨b, i, none⟩ = (beA s.nw mb m3)[i]?) ∧ (∀ i, w'.cell? ⟨w.heap.size, i, none⟩ = (evA e)[i]?))) (ds := []) #[ff,ff,ff,ff,ff,ff,ff,ff,ff,ff,ff,ff] (by kernel_rfl) rfl rfl HJ.out.drew.cells (fun hHeld => ?_)
 refine with_tabW heR.tab1 heR.bits1 (fun HT_ HW_ => ?_)
 have HJ2 := Aside0.mk HJ.out.drew
 generalize World.drew _ = w2 at HJ2 hHeld ⊢
 clear hcb hce hlb hle
 have hlb := HJ2.out.be.lt
 have hle := blk_lt HJ2.out.eb_
 refine take_ (i := 0) (N := (some 7)) (v := ?_) (a' := ?_) #[tt,ff,ff,ff,ff,ff,ff,ff,ff,ff,ff,ff] rfl rfl (take_ofW HT_.out HW_.out (by kernel_rfl)) (fun _ _ _ h => h) (Or.inl ⟨by rfl, ?_⟩) hHeld ?_ ?_
 rotate_left
 ·rintro w' ⟨s0, s1⟩
  go_simp
  with_reducible rfl
 rotate_left
 ·simp only [Act.put, sQ0, sQ1, sQ2, i64_w]
  rfl
 refine one_ (i := 1) (N := (some 8)) #[tt,tt,ff,ff,ff,ff,ff,ff,ff,ff,ff,ff] rfl rfl (one_of HT_.out (by kernel_rfl)) (by decide) (fun K hK => ?_)
 refine call_ (f := 65) #[.agg (evA e)] (by rfl) rfl (by go_simp <;> rfl) ?_
 refine (CR.out w2).mono ?_
 rintro r w3 ⟨rfl, hb⟩
 refine ⟨_, rfl, ?_⟩
 have HJ3 := Aside0.mk (HJ2.out.step hb)
 clear hb
 refine hK.out _ _ HJ3.out.cells (fun hHeld => ?_)
 clear hK K
 refine norm_ (a' := ?_) ?_ ?_
 rotate_left
 ·show Act.put _ (some 8) _ = _
  simp only [Act.put, sQ0, sQ1, sQ2, i64_w]
  rfl
 refine pure_ (i := 2) (N := (some 9)) (v := ?_) (a' := ?_) #[tt,tt,tt,ff,ff,ff,ff,ff,ff,ff,ff,ff] rfl rfl (any_of HT_.out (by kernel_rfl)) (fun _ _ _ h => h) (Or.inl ⟨by rfl, ?_⟩) ?_ ?_
 rotate_left
 ·intro w'
  go_simp
  with_reducible rfl
 rotate_left
 ·simp only [Act.put, sQ0, sQ1, sQ2, i64_w]
  rfl
 refine pure_ (i := 3) (N := (some 10)) (v := ?_) (a' := ?_) #[tt,tt,tt,tt,ff,ff,ff,ff,ff,ff,ff,ff] rfl rfl (any_of HT_.out (by kernel_rfl)) (fun _ _ _ h => h) (Or.inl ⟨by rfl, ?_⟩) ?_ ?_
 rotate_left
 ·intro w'
  go_simp
  with_reducible rfl
 rotate_left
 ·simp only [Act.put, sQ0, sQ1, sQ2, i64_w]
  rfl
 refine pure_ (i := 4) (N := (some 11)) (v := undef) (a' := ?_) #[tt,tt,tt,tt,tt,ff,ff,ff,ff,ff,ff,ff] rfl rfl (any_of HT_.out (by kernel_rfl)) (fun _ _ _ h => h) (Or.inr ⟨by rfl, rfl⟩) ?_ ?_
 rotate_left
 ·simp only [Act.put, sQ0, sQ1, sQ2, i64_w]
  rfl
 refine pure_ (i := 5) (N := (some 12)) (v := undef) (a' := ?_) #[tt,tt,tt,tt,tt,tt,ff,ff,ff,ff,ff,ff] rfl rfl (any_of HT_.out (by kernel_rfl)) (fun _ _ _ h => h) (Or.inr ⟨by rfl, rfl⟩) ?_ ?_
 rotate_left
 ·simp only [Act.put, sQ0, sQ1, sQ2, i64_w]
  rfl
 refine pure_ (i := 6) (N := (some 13)) (v := undef) (a' := ?_) #[tt,tt,tt,tt,tt,tt,tt,ff,ff,ff,ff,ff] rfl rfl (any_of HT_.out (by kernel_rfl)) (fun _ _ _ h => h) (Or.inr ⟨by rfl, rfl⟩) ?_ ?_
 rotate_left
 ·simp only [Act.put, sQ0, sQ1, sQ2, i64_w]
  rfl
 refine pure_ (i := 7) (N := (some 14)) (v := undef) (a' := ?_) #[tt,tt,tt,tt,tt,tt,tt,tt,ff,ff,ff,ff] rfl rfl (any_of HT_.out (by kernel_rfl)) (fun _ _ _ h => h) (Or.inr ⟨by rfl, rfl⟩) ?_ ?_
 rotate_left
 ·simp only [Act.put, sQ0, sQ1, sQ2, i64_w]
  rfl
 refine pure_ (i := 8) (N := (some 15)) (v := undef) (a' := ?_) #[tt,tt,tt,tt,tt,tt,tt,tt,tt,ff,ff,ff] rfl rfl (any_of HT_.out (by kernel_rfl)) (fun _ _ _ h => h) (Or.inr ⟨by rfl, rfl⟩) ?_ ?_
 rotate_left
 ·simp only [Act.put, sQ0, sQ1, sQ2, i64_w]
  rfl
 refine pure_ (i := 9) (N := (some 16)) (v := undef) (a' := ?_) #[tt,tt,tt,tt,tt,tt,tt,tt,tt,tt,ff,ff] rfl rfl (any_of HT_.out (by kernel_rfl)) (fun _ _ _ h => h) (Or.inr ⟨by rfl, rfl⟩) ?_ ?_
 rotate_left
 ·simp only [Act.put, sQ0, sQ1, sQ2, i64_w]
  rfl
 refine pure_ (i := 10) (N := (some 17)) (v := undef) (a' := ?_) #[tt,tt,tt,tt,tt,tt,tt,tt,tt,tt,tt,ff] rfl rfl (any_of HT_.out (by kernel_rfl)) (fun _ _ _ h => h) (Or.inr ⟨by rfl, rfl⟩) ?_ ?_
 rotate_left
 ·simp only [Act.put, sQ0, sQ1, sQ2, i64_w]
  rfl
 refine pure_ (i := 11) (N := (some 18)) (v := ?_) (a' := ?_) #[tt,tt,tt,tt,tt,tt,tt,tt,tt,tt,tt,tt] rfl rfl (any_of HT_.out (by kernel_rfl)) (fun _ _ _ h => h) (Or.inl ⟨by rfl, ?_⟩) ?_ ?_
 rotate_left
 ·intro w'
  go_simp
  with_reducible rfl
 rotate_left
 ·simp only [Act.put, sQ0, sQ1, sQ2, i64_w]
  rfl
 refine done_ (done_of HT_.out (by kernel_rfl)) ?_
 clear hHeld
 clear hlb hle
 have hcb := fun i => HJ3.out.be.cell i
 have hce := fun i => blk_cell HJ3.out.eb_ i
 have hlb := HJ3.out.be.lt
 have hle := blk_lt HJ3.out.eb_
 go_wp2
 go_ret
 exact BePost.of HF.out rfl (HJ3.out.be.up (by omega)) HJ3.out.bel
theorem hear_worker {w : World} {B b n mb m1 m2 m3 : Nat} {s : Be} {pf : Int → Option Nat} (e : Ev) (hw : (Lit.int .i64 e.hn).wf = true ∧ (Lit.int .i64 e.hg).wf = true ∧ (Lit.int .i64 e.nn).wf = true ∧ (Lit.int .i64 e.ng).wf = true) (hwk : (Lit.int .i64 e.wk).wf = true) (hn : n + 4 ≤ 1000000) (hwl : ∀ x, (Lit.int .i64 ((s.m.lst x).getD 0)).wf = true) (h : BeIs w B b n s mb m1 m2 m3 pf) (hB : B ≤ w.heap.size) (hr : rightJ e = true) (hnw : s.nw ≤ e.wk) :
  Calls Try.prog 29 #[pA b, .agg (evA e)] w (BePost w B b n mb m1 m2 m3 (hearF s e)) := by
 have hu0 := Try.underlying61
 have hu1 := Try.underlying34
 have hu2 := Try.underlying54
 have hu3 := Try.underlying119
 have HF := Aside0.mk (show hearF s e = (s, 8) by unfold hearF; rw [if_pos (.inr hnw)])
 have d0 : decide (e.wk ≥ s.nw) = true := decide_eq_true hnw
 have CR := Aside0.mk (fun W => right_run e W)
 rw [hr] at CR
 have HW := Aside0.mk hw
 have HWK := Aside0.mk hwk
 have HN := Aside0.mk hn
 have HWL := Aside0.mk hwl
 have HJ := Aside0.mk (Bj.start h hB e)
 clear hw hwk hn hwl h hB hr hnw
 have hcb := fun i => HJ.out.be.cell i
 have hce := fun i => blk_cell HJ.out.eb_ i
 have hlb := HJ.out.be.lt
 have hle := blk_lt HJ.out.eb_
 go_enter Try.func29, Try.ntmps29
 go_upto_region 1 with (fail)
 refine start_ (n := 12) (S := (fun w' => (∀ i, w'.cell? ⟨b, i, none⟩ = (beA s.nw mb m3)[i]?) ∧ (∀ i, w'.cell? ⟨w.heap.size, i, none⟩ = (evA e)[i]?))) (ds := []) #[ff,ff,ff,ff,ff,ff,ff,ff,ff,ff,ff,ff] (by kernel_rfl) rfl rfl HJ.out.drew.cells (fun hHeld => ?_)
 refine with_tabW heR.tab1 heR.bits1 (fun HT_ HW_ => ?_)
 have HJ2 := Aside0.mk HJ.out.drew
 generalize World.drew _ = w2 at HJ2 hHeld ⊢
 clear hcb hce hlb hle
 have hlb := HJ2.out.be.lt
 have hle := blk_lt HJ2.out.eb_
 refine take_ (i := 0) (N := (some 7)) (v := ?_) (a' := ?_) #[tt,ff,ff,ff,ff,ff,ff,ff,ff,ff,ff,ff] rfl rfl (take_ofW HT_.out HW_.out (by kernel_rfl)) (fun _ _ _ h => h) (Or.inl ⟨by rfl, ?_⟩) hHeld ?_ ?_
 rotate_left
 ·rintro w' ⟨s0, s1⟩
  go_simp
  with_reducible rfl
 rotate_left
 ·simp only [Act.put, sQ0, sQ1, sQ2, i64_w]
  rfl
 refine one_ (i := 1) (N := (some 8)) #[tt,tt,ff,ff,ff,ff,ff,ff,ff,ff,ff,ff] rfl rfl (one_of HT_.out (by kernel_rfl)) (by decide) (fun K hK => ?_)
 refine call_ (f := 65) #[.agg (evA e)] (by rfl) rfl (by go_simp <;> rfl) ?_
 refine (CR.out w2).mono ?_
 rintro r w3 ⟨rfl, hb⟩
 refine ⟨_, rfl, ?_⟩
 have HJ3 := Aside0.mk (HJ2.out.step hb)
 clear hb
 refine hK.out _ _ HJ3.out.cells (fun hHeld => ?_)
 clear hK K
 refine norm_ (a' := ?_) ?_ ?_
 rotate_left
 ·show Act.put _ (some 8) _ = _
  simp only [Act.put, sQ0, sQ1, sQ2, i64_w]
  rfl
 refine pure_ (i := 2) (N := (some 9)) (v := ?_) (a' := ?_) #[tt,tt,tt,ff,ff,ff,ff,ff,ff,ff,ff,ff] rfl rfl (any_of HT_.out (by kernel_rfl)) (fun _ _ _ h => h) (Or.inl ⟨by rfl, ?_⟩) ?_ ?_
 rotate_left
 ·intro w'
  go_simp
  with_reducible rfl
 rotate_left
 ·simp only [Act.put, sQ0, sQ1, sQ2, i64_w]
  rfl
 refine pure_ (i := 3) (N := (some 10)) (v := ?_) (a' := ?_) #[tt,tt,tt,tt,ff,ff,ff,ff,ff,ff,ff,ff] rfl rfl (any_of HT_.out (by kernel_rfl)) (fun _ _ _ h => h) (Or.inl ⟨by rfl, ?_⟩) ?_ ?_
 rotate_left
 ·intro w'
  go_simp
  with_reducible rfl
 rotate_left
 ·simp only [Act.put, sQ0, sQ1, sQ2, i64_w]
  rfl
 refine pure_ (i := 4) (N := (some 11)) (v := ?_) (a' := ?_) #[tt,tt,tt,tt,tt,ff,ff,ff,ff,ff,ff,ff] rfl rfl (any_of HT_.out (by kernel_rfl)) (fun _ _ _ h => h) (Or.inl ⟨by rfl, ?_⟩) ?_ ?_
 rotate_left
 ·intro w'
  go_simp
  with_reducible rfl
 rotate_left
 ·simp only [Act.put, sQ0, sQ1, sQ2, i64_w]
  rfl
 refine pure_ (i := 6) (N := (some 13)) (v := ?_) (a' := ?_) #[tt,tt,tt,tt,tt,ff,tt,ff,ff,ff,ff,ff] rfl rfl (any_of HT_.out (by kernel_rfl)) (fun _ _ _ h => h) (Or.inl ⟨by rfl, ?_⟩) ?_ ?_
 rotate_left
 ·intro w'
  go_simp
  with_reducible rfl
 rotate_left
 ·simp only [Act.put, sQ0, sQ1, sQ2, i64_w]
  rfl
 refine pure_ (i := 7) (N := (some 14)) (v := ?_) (a' := ?_) #[tt,tt,tt,tt,tt,ff,tt,tt,ff,ff,ff,ff] rfl rfl (any_of HT_.out (by kernel_rfl)) (fun _ _ _ h => h) (Or.inl ⟨by rfl, ?_⟩) ?_ ?_
 rotate_left
 ·intro w'
  go_simp
  with_reducible rfl
 rotate_left
 ·simp only [Act.put, sQ0, sQ1, sQ2, i64_w]
  rfl
 refine pure_ (i := 8) (N := (some 15)) (v := ?_) (a' := ?_) #[tt,tt,tt,tt,tt,ff,tt,tt,tt,ff,ff,ff] rfl rfl (any_of HT_.out (by kernel_rfl)) (fun _ _ _ h => h) (Or.inl ⟨by rfl, ?_⟩) ?_ ?_
 rotate_left
 ·intro w'
  go_simp
  with_reducible rfl
 rotate_left
 ·simp only [Act.put, sQ0, sQ1, sQ2, i64_w]
  rfl
 refine take_ (i := 5) (N := (some 12)) (v := ?_) (a' := ?_) #[tt,tt,tt,tt,tt,tt,tt,tt,tt,ff,ff,ff] rfl rfl (take_ofW HT_.out HW_.out (by kernel_rfl)) (fun _ _ _ h => h) (Or.inl ⟨by rfl, ?_⟩) hHeld ?_ ?_
 rotate_left
 ·rintro w' ⟨s0, s1⟩
  go_simp
  with_reducible rfl
 rotate_left
 ·simp only [Act.put, sQ0, sQ1, sQ2, i64_w]
  rfl
 refine take_ (i := 9) (N := (some 16)) (v := ?_) (a' := ?_) #[tt,tt,tt,tt,tt,tt,tt,tt,tt,tt,ff,ff] rfl rfl (take_ofW HT_.out HW_.out (by kernel_rfl)) (fun _ _ _ h => h) (Or.inl ⟨by rfl, ?_⟩) hHeld ?_ ?_
 rotate_left
 ·rintro w' ⟨s0, s1⟩
  go_simp
  with_reducible rfl
 rotate_left
 ·simp only [Act.put, sQ0, sQ1, sQ2, i64_w]
  rfl
 refine pure_ (i := 10) (N := (some 17)) (v := ?_) (a' := ?_) #[tt,tt,tt,tt,tt,tt,tt,tt,tt,tt,tt,ff] rfl rfl (any_of HT_.out (by kernel_rfl)) (fun _ _ _ h => h) (Or.inl ⟨by rfl, ?_⟩) ?_ ?_
 rotate_left
 ·intro w'
  go_simp
  with_reducible rfl
 rotate_left
 ·simp only [Act.put, sQ0, sQ1, sQ2, i64_w]
  rfl
 refine pure_ (i := 11) (N := (some 18)) (v := ?_) (a' := ?_) #[tt,tt,tt,tt,tt,tt,tt,tt,tt,tt,tt,tt] rfl rfl (any_of HT_.out (by kernel_rfl)) (fun _ _ _ h => h) (Or.inl ⟨by rfl, ?_⟩) ?_ ?_
 rotate_left
 ·intro w'
  go_simp
  with_reducible rfl
 rotate_left
 ·simp only [Act.put, sQ0, sQ1, sQ2, i64_w]
  rfl
 refine done_ (done_of HT_.out (by kernel_rfl)) ?_
 clear hHeld
 clear hlb hle
 have hcb := fun i => HJ3.out.be.cell i
 have hce := fun i => blk_cell HJ3.out.eb_ i
 have hlb := HJ3.out.be.lt
 have hle := blk_lt HJ3.out.eb_
 go_wp2
 go_ret
 exact BePost.of HF.out rfl (HJ3.out.be.up (by omega)) HJ3.out.bel
theorem hear_tick {w : World} {B b n mb m1 m2 m3 : Nat} {s : Be} {pf : Int → Option Nat} (e : Ev) (hw : (Lit.int .i64 e.hn).wf = true ∧ (Lit.int .i64 e.hg).wf = true ∧ (Lit.int .i64 e.nn).wf = true ∧ (Lit.int .i64 e.ng).wf = true) (hwk : (Lit.int .i64 e.wk).wf = true) (hn : n + 4 ≤ 1000000) (hwl : ∀ x, (Lit.int .i64 ((s.m.lst x).getD 0)).wf = true) (h : BeIs w B b n s mb m1 m2 m3 pf) (hB : B ≤ w.heap.size) (hr : rightJ e = true) (hnw : ¬ s.nw ≤ e.wk) (hk : e.k = 1) (hs : s.wks e.wk = none) :
  Calls Try.prog 29 #[pA b, .agg (evA e)] w (BePost w B b n mb m1 m2 m3 (hearF s e)) := by
 have hu0 := Try.underlying61
 have hu1 := Try.underlying34
 have hu2 := Try.underlying54
 have hu3 := Try.underlying119
 have HF := Aside0.mk (show hearF s e = ({ s with m := (doF s.m e).1 }, (doF s.m e).2) by unfold hearF; rw [if_neg (fun q => by rcases q with q | q; (rw [hr] at q; cases q); omega)]; rw [if_pos hk])
 have d0 : decide (e.wk ≥ s.nw) = false := decide_eq_false hnw
 have k1 : (e.k == 1) = true := beq_iff_eq.2 (hk)
 have k2 : (e.k == 2) = false := beq_eq_false_iff_ne.2 (by omega)
 have k3 : (e.k == 3) = false := beq_eq_false_iff_ne.2 (by omega)
 have k4 : (e.k == 4) = false := beq_eq_false_iff_ne.2 (by omega)
 have CR := Aside0.mk (fun W => right_run e W)
 rw [hr] at CR
 have HW := Aside0.mk hw
 have HWK := Aside0.mk hwk
 have HN := Aside0.mk hn
 have HWL := Aside0.mk hwl
 have HJ := Aside0.mk (Bj.start h hB e)
 have HP := Aside0.mk (h.idle hs)
 clear hw hwk hn hwl h hB hr hnw hk hs
 have hcb := fun i => HJ.out.be.cell i
 have hce := fun i => blk_cell HJ.out.eb_ i
 have hlb := HJ.out.be.lt
 have hle := blk_lt HJ.out.eb_
 go_enter Try.func29, Try.ntmps29
 go_upto_region 1 with (fail)
 refine start_ (n := 12) (S := (fun w' => (∀ i, w'.cell? ⟨b, i, none⟩ = (beA s.nw mb m3)[i]?) ∧ (∀ i, w'.cell? ⟨w.heap.size, i, none⟩ = (evA e)[i]?))) (ds := []) #[ff,ff,ff,ff,ff,ff,ff,ff,ff,ff,ff,ff] (by kernel_rfl) rfl rfl HJ.out.drew.cells (fun hHeld => ?_)
 refine with_tabW heR.tab1 heR.bits1 (fun HT_ HW_ => ?_)
 have HJ2 := Aside0.mk HJ.out.drew
 generalize World.drew _ = w2 at HJ2 hHeld ⊢
 clear hcb hce hlb hle
 have hlb := HJ2.out.be.lt
 have hle := blk_lt HJ2.out.eb_
 refine take_ (i := 0) (N := (some 7)) (v := ?_) (a' := ?_) #[tt,ff,ff,ff,ff,ff,ff,ff,ff,ff,ff,ff] rfl rfl (take_ofW HT_.out HW_.out (by kernel_rfl)) (fun _ _ _ h => h) (Or.inl ⟨by rfl, ?_⟩) hHeld ?_ ?_
 rotate_left
 ·rintro w' ⟨s0, s1⟩
  go_simp
  with_reducible rfl
 rotate_left
 ·simp only [Act.put, sQ0, sQ1, sQ2, i64_w]
  rfl
 refine one_ (i := 1) (N := (some 8)) #[tt,tt,ff,ff,ff,ff,ff,ff,ff,ff,ff,ff] rfl rfl (one_of HT_.out (by kernel_rfl)) (by decide) (fun K hK => ?_)
 refine call_ (f := 65) #[.agg (evA e)] (by rfl) rfl (by go_simp <;> rfl) ?_
 refine (CR.out w2).mono ?_
 rintro r w3 ⟨rfl, hb⟩
 refine ⟨_, rfl, ?_⟩
 have HJ3 := Aside0.mk (HJ2.out.step hb)
 clear hb
 refine hK.out _ _ HJ3.out.cells (fun hHeld => ?_)
 clear hK K
 refine norm_ (a' := ?_) ?_ ?_
 rotate_left
 ·show Act.put _ (some 8) _ = _
  simp only [Act.put, sQ0, sQ1, sQ2, i64_w]
  rfl
 refine pure_ (i := 2) (N := (some 9)) (v := ?_) (a' := ?_) #[tt,tt,tt,ff,ff,ff,ff,ff,ff,ff,ff,ff] rfl rfl (any_of HT_.out (by kernel_rfl)) (fun _ _ _ h => h) (Or.inl ⟨by rfl, ?_⟩) ?_ ?_
 rotate_left
 ·intro w'
  go_simp
  with_reducible rfl
 rotate_left
 ·simp only [Act.put, sQ0, sQ1, sQ2, i64_w]
  rfl
 refine pure_ (i := 3) (N := (some 10)) (v := ?_) (a' := ?_) #[tt,tt,tt,tt,ff,ff,ff,ff,ff,ff,ff,ff] rfl rfl (any_of HT_.out (by kernel_rfl)) (fun _ _ _ h => h) (Or.inl ⟨by rfl, ?_⟩) ?_ ?_
 rotate_left
 ·intro w'
  go_simp
  with_reducible rfl
 rotate_left
 ·simp only [Act.put, sQ0, sQ1, sQ2, i64_w]
  rfl
 refine pure_ (i := 4) (N := (some 11)) (v := ?_) (a' := ?_) #[tt,tt,tt,tt,tt,ff,ff,ff,ff,ff,ff,ff] rfl rfl (any_of HT_.out (by kernel_rfl)) (fun _ _ _ h => h) (Or.inl ⟨by rfl, ?_⟩) ?_ ?_
 rotate_left
 ·intro w'
  go_simp
  with_reducible rfl
 rotate_left
 ·simp only [Act.put, sQ0, sQ1, sQ2, i64_w]
  rfl
 refine pure_ (i := 6) (N := (some 13)) (v := ?_) (a' := ?_) #[tt,tt,tt,tt,tt,ff,tt,ff,ff,ff,ff,ff] rfl rfl (any_of HT_.out (by kernel_rfl)) (fun _ _ _ h => h) (Or.inl ⟨by rfl, ?_⟩) ?_ ?_
 rotate_left
 ·intro w'
  go_simp
  with_reducible rfl
 rotate_left
 ·simp only [Act.put, sQ0, sQ1, sQ2, i64_w]
  rfl
 refine pure_ (i := 7) (N := (some 14)) (v := ?_) (a' := ?_) #[tt,tt,tt,tt,tt,ff,tt,tt,ff,ff,ff,ff] rfl rfl (any_of HT_.out (by kernel_rfl)) (fun _ _ _ h => h) (Or.inl ⟨by rfl, ?_⟩) ?_ ?_
 rotate_left
 ·intro w'
  go_simp
  with_reducible rfl
 rotate_left
 ·simp only [Act.put, sQ0, sQ1, sQ2, i64_w]
  rfl
 refine pure_ (i := 8) (N := (some 15)) (v := ?_) (a' := ?_) #[tt,tt,tt,tt,tt,ff,tt,tt,tt,ff,ff,ff] rfl rfl (any_of HT_.out (by kernel_rfl)) (fun _ _ _ h => h) (Or.inl ⟨by rfl, ?_⟩) ?_ ?_
 rotate_left
 ·intro w'
  go_simp
  with_reducible rfl
 rotate_left
 ·simp only [Act.put, sQ0, sQ1, sQ2, i64_w]
  rfl
 refine take_ (i := 5) (N := (some 12)) (v := ?_) (a' := ?_) #[tt,tt,tt,tt,tt,tt,tt,tt,tt,ff,ff,ff] rfl rfl (take_ofW HT_.out HW_.out (by kernel_rfl)) (fun _ _ _ h => h) (Or.inl ⟨by rfl, ?_⟩) hHeld ?_ ?_
 rotate_left
 ·rintro w' ⟨s0, s1⟩
  go_simp
  with_reducible rfl
 rotate_left
 ·simp only [Act.put, sQ0, sQ1, sQ2, i64_w]
  rfl
 refine take_ (i := 9) (N := (some 16)) (v := ?_) (a' := ?_) #[tt,tt,tt,tt,tt,tt,tt,tt,tt,tt,ff,ff] rfl rfl (take_ofW HT_.out HW_.out (by kernel_rfl)) (fun _ _ _ h => h) (Or.inl ⟨by rfl, ?_⟩) hHeld ?_ ?_
 rotate_left
 ·rintro w' ⟨s0, s1⟩
  go_simp
  with_reducible rfl
 rotate_left
 ·simp only [Act.put, sQ0, sQ1, sQ2, i64_w]
  rfl
 refine pure_ (i := 10) (N := (some 17)) (v := ?_) (a' := ?_) #[tt,tt,tt,tt,tt,tt,tt,tt,tt,tt,tt,ff] rfl rfl (any_of HT_.out (by kernel_rfl)) (fun _ _ _ h => h) (Or.inl ⟨by rfl, ?_⟩) ?_ ?_
 rotate_left
 ·intro w'
  go_simp
  with_reducible rfl
 rotate_left
 ·simp only [Act.put, sQ0, sQ1, sQ2, i64_w]
  rfl
 refine pure_ (i := 11) (N := (some 18)) (v := ?_) (a' := ?_) #[tt,tt,tt,tt,tt,tt,tt,tt,tt,tt,tt,tt] rfl rfl (any_of HT_.out (by kernel_rfl)) (fun _ _ _ h => h) (Or.inl ⟨by rfl, ?_⟩) ?_ ?_
 rotate_left
 ·intro w'
  go_simp
  with_reducible rfl
 rotate_left
 ·simp only [Act.put, sQ0, sQ1, sQ2, i64_w]
  rfl
 refine done_ (done_of HT_.out (by kernel_rfl)) ?_
 clear hHeld
 clear hlb hle
 have hcb := fun i => HJ3.out.be.cell i
 have hce := fun i => blk_cell HJ3.out.eb_ i
 have hlb := HJ3.out.be.lt
 have hle := blk_lt HJ3.out.eb_
 go_upto_region 3 with (fail)
 refine gen_world' (fun W => Bj w W B b n mb m1 m2 m3 s pf e w.heap.size) (by exact HJ3.out) fun w4 Hw4 => ?_
 have HJw4 := Aside0.mk Hw4
 clear Hw4
 clear hcb hce hlb hle
 have hcb := fun i => HJw4.out.be.cell i
 have hce := fun i => blk_cell HJw4.out.eb_ i
 have hlb := HJw4.out.be.lt
 have hle := blk_lt HJw4.out.eb_
 have hl := fun q => HJw4.out.be.look HWK.out (w4.drewN q) rfl
 rw [pV_none HP.out] at hl
 simp only [Option.getD_some, Option.getD_none, Option.isSome_some, Option.isSome_none] at hl
 go_quiet (fail)
 clear hl
 go_upto_region 6 with (fail)
 refine gen_world' (fun W => Bj w W B b n mb m1 m2 m3 s pf e w.heap.size) (by exact HJw4.out.drewN _) fun w6 Hw6 => ?_
 have HJw6 := Aside0.mk Hw6
 clear Hw6
 clear hcb hce hlb hle
 have hcb := fun i => HJw6.out.be.cell i
 have hce := fun i => blk_cell HJw6.out.eb_ i
 have hlb := HJw6.out.be.lt
 have hle := blk_lt HJw6.out.eb_
 refine start_ (n := 7) (S := (fun w' => (∀ i, w'.cell? ⟨b, i, none⟩ = (beA s.nw mb m3)[i]?) ∧ (∀ i, w'.cell? ⟨w.heap.size, i, none⟩ = (evA e)[i]?))) (ds := [5]) #[ff,ff,ff,ff,ff,ff,ff] (by kernel_rfl) rfl rfl HJw6.out.drew.cells (fun hHeld => ?_)
 refine with_tabW heR.tab6 heR.bits6 (fun HT_ HW_ => ?_)
 have HJ7 := Aside0.mk HJw6.out.drew
 generalize w6.drew = w7 at HJ7 hHeld ⊢
 clear hcb hce hlb hle
 have hlb := HJ7.out.be.lt
 have hle := blk_lt HJ7.out.eb_
 refine pure_ (i := 0) (N := (some 33)) (v := ?_) (a' := ?_) #[tt,ff,ff,ff,ff,ff,ff] rfl rfl (any_of HT_.out (by kernel_rfl)) (fun _ _ _ h => h) (Or.inl ⟨by rfl, ?_⟩) ?_ ?_
 rotate_left
 ·intro w'
  go_simp
  with_reducible rfl
 rotate_left
 ·simp only [Act.put, sQ0, sQ1, sQ2, i64_w]
  rfl
 refine pure_ (i := 1) (N := (some 34)) (v := ?_) (a' := ?_) #[tt,tt,ff,ff,ff,ff,ff] rfl rfl (any_of HT_.out (by kernel_rfl)) (fun _ _ _ h => h) (Or.inl ⟨by rfl, ?_⟩) ?_ ?_
 rotate_left
 ·intro w'
  go_simp
  with_reducible rfl
 rotate_left
 ·simp only [Act.put, sQ0, sQ1, sQ2, i64_w]
  rfl
 refine pure_ (i := 2) (N := (some 35)) (v := ?_) (a' := ?_) #[tt,tt,tt,ff,ff,ff,ff] rfl rfl (any_of HT_.out (by kernel_rfl)) (fun _ _ _ h => h) (Or.inl ⟨by rfl, ?_⟩) ?_ ?_
 rotate_left
 ·intro w'
  go_simp
  with_reducible rfl
 rotate_left
 ·simp only [Act.put, sQ0, sQ1, sQ2, i64_w]
  rfl
 refine take_ (i := 3) (N := (some 36)) (v := ?_) (a' := ?_) #[tt,tt,tt,tt,ff,ff,ff] rfl rfl (take_ofW HT_.out HW_.out (by kernel_rfl)) (fun _ _ _ h => h) (Or.inl ⟨by rfl, ?_⟩) hHeld ?_ ?_
 rotate_left
 ·rintro w' ⟨s0, s1⟩
  go_simp
  with_reducible rfl
 rotate_left
 ·simp only [Act.put, sQ0, sQ1, sQ2, i64_w]
  rfl
 refine take_ (i := 4) (N := (some 37)) (v := ?_) (a' := ?_) #[tt,tt,tt,tt,tt,ff,ff] rfl rfl (take_ofW HT_.out HW_.out (by kernel_rfl)) (fun _ _ _ h => h) (Or.inl ⟨by rfl, ?_⟩) hHeld ?_ ?_
 rotate_left
 ·rintro w' ⟨s0, s1⟩
  go_simp
  with_reducible rfl
 rotate_left
 ·simp only [Act.put, sQ0, sQ1, sQ2, i64_w]
  rfl
 refine last_ (i := 5) (N := (some 38)) #[tt,tt,tt,tt,tt,tt,ff] rfl rfl (one_of HT_.out (by kernel_rfl)) (by decide) (fun K hK => ?_)
 refine call_ (f := 43) #[pA mb, .agg (evA e)] (by rfl) rfl (by go_simp <;> rfl) ?_
 refine (do_any e HW.out (by have := HN.out; omega) HWL.out HJ7.out.be.md).mono ?_
 rintro r w8 ⟨rfl, hm, hf⟩
 refine ⟨_, rfl, ?_⟩
 have HD := Aside0.mk (HJ7.out.model hm (by omega) hf)
 clear hm hf
 refine hK.out _ _ ?_
 clear hK K
 refine norm_ (a' := ?_) ?_ ?_
 rotate_left
 ·show Act.put _ (some 38) _ = _
  simp only [Act.put, sQ0, sQ1, sQ2, i64_w]
  rfl
 refine pure_ (i := 6) (N := (some 4)) (v := ?_) (a' := ?_) #[tt,tt,tt,tt,tt,tt,tt] rfl rfl (any_of HT_.out (by kernel_rfl)) (fun _ _ _ h => h) (Or.inl ⟨by rfl, ?_⟩) ?_ ?_
 rotate_left
 ·intro w'
  go_simp
  with_reducible rfl
 rotate_left
 ·simp only [Act.put, sQ0, sQ1, sQ2, i64_w]
  rfl
 refine done_ (done_of HT_.out (by kernel_rfl)) ?_
 clear hlb hle
 have hcb := fun i => HD.out.be.cell i
 have hce := fun i => blk_cell HD.out.eb_ i
 have hlb := HD.out.be.lt
 have hle := blk_lt HD.out.eb_
 go_wp2
 go_ret
 exact BePost.of HF.out rfl (HD.out.be.up (by omega)) HD.out.bel
theorem hear_tick_b {w : World} {B b n mb m1 m2 m3 : Nat} {s : Be} {pf : Int → Option Nat} {k : Wk} (e : Ev) (hw : (Lit.int .i64 e.hn).wf = true ∧ (Lit.int .i64 e.hg).wf = true ∧ (Lit.int .i64 e.nn).wf = true ∧ (Lit.int .i64 e.ng).wf = true) (hwk : (Lit.int .i64 e.wk).wf = true) (hn : n + 4 ≤ 1000000) (hwl : ∀ x, (Lit.int .i64 ((s.m.lst x).getD 0)).wf = true) (h : BeIs w B b n s mb m1 m2 m3 pf) (hB : B ≤ w.heap.size) (hr : rightJ e = true) (hnw : ¬ s.nw ≤ e.wk) (hk : e.k = 1) (hs : s.wks e.wk = some k) :
  Calls Try.prog 29 #[pA b, .agg (evA e)] w (BePost w B b n mb m1 m2 m3 (hearF s e)) := by
 have hu0 := Try.underlying61
 have hu1 := Try.underlying34
 have hu2 := Try.underlying54
 have hu3 := Try.underlying119
 have HF := Aside0.mk (show hearF s e = ({ s with m := (doF s.m e).1 }, (doF s.m e).2) by unfold hearF; rw [if_neg (fun q => by rcases q with q | q; (rw [hr] at q; cases q); omega)]; rw [if_pos hk])
 have d0 : decide (e.wk ≥ s.nw) = false := decide_eq_false hnw
 have k1 : (e.k == 1) = true := beq_iff_eq.2 (hk)
 have k2 : (e.k == 2) = false := beq_eq_false_iff_ne.2 (by omega)
 have k3 : (e.k == 3) = false := beq_eq_false_iff_ne.2 (by omega)
 have k4 : (e.k == 4) = false := beq_eq_false_iff_ne.2 (by omega)
 have CR := Aside0.mk (fun W => right_run e W)
 rw [hr] at CR
 have HW := Aside0.mk hw
 have HWK := Aside0.mk hwk
 have HN := Aside0.mk hn
 have HWL := Aside0.mk hwl
 have HJ := Aside0.mk (Bj.start h hB e)
 have HP0 := h.busy hs
 obtain ⟨g, hp, _⟩ := HP0
 have HP := Aside0.mk hp
 clear hp
 clear hw hwk hn hwl h hB hr hnw hk hs
 have hcb := fun i => HJ.out.be.cell i
 have hce := fun i => blk_cell HJ.out.eb_ i
 have hlb := HJ.out.be.lt
 have hle := blk_lt HJ.out.eb_
 go_enter Try.func29, Try.ntmps29
 go_upto_region 1 with (fail)
 refine start_ (n := 12) (S := (fun w' => (∀ i, w'.cell? ⟨b, i, none⟩ = (beA s.nw mb m3)[i]?) ∧ (∀ i, w'.cell? ⟨w.heap.size, i, none⟩ = (evA e)[i]?))) (ds := []) #[ff,ff,ff,ff,ff,ff,ff,ff,ff,ff,ff,ff] (by kernel_rfl) rfl rfl HJ.out.drew.cells (fun hHeld => ?_)
 refine with_tabW heR.tab1 heR.bits1 (fun HT_ HW_ => ?_)
 have HJ2 := Aside0.mk HJ.out.drew
 generalize World.drew _ = w2 at HJ2 hHeld ⊢
 clear hcb hce hlb hle
 have hlb := HJ2.out.be.lt
 have hle := blk_lt HJ2.out.eb_
 refine take_ (i := 0) (N := (some 7)) (v := ?_) (a' := ?_) #[tt,ff,ff,ff,ff,ff,ff,ff,ff,ff,ff,ff] rfl rfl (take_ofW HT_.out HW_.out (by kernel_rfl)) (fun _ _ _ h => h) (Or.inl ⟨by rfl, ?_⟩) hHeld ?_ ?_
 rotate_left
 ·rintro w' ⟨s0, s1⟩
  go_simp
  with_reducible rfl
 rotate_left
 ·simp only [Act.put, sQ0, sQ1, sQ2, i64_w]
  rfl
 refine one_ (i := 1) (N := (some 8)) #[tt,tt,ff,ff,ff,ff,ff,ff,ff,ff,ff,ff] rfl rfl (one_of HT_.out (by kernel_rfl)) (by decide) (fun K hK => ?_)
 refine call_ (f := 65) #[.agg (evA e)] (by rfl) rfl (by go_simp <;> rfl) ?_
 refine (CR.out w2).mono ?_
 rintro r w3 ⟨rfl, hb⟩
 refine ⟨_, rfl, ?_⟩
 have HJ3 := Aside0.mk (HJ2.out.step hb)
 clear hb
 refine hK.out _ _ HJ3.out.cells (fun hHeld => ?_)
 clear hK K
 refine norm_ (a' := ?_) ?_ ?_
 rotate_left
 ·show Act.put _ (some 8) _ = _
  simp only [Act.put, sQ0, sQ1, sQ2, i64_w]
  rfl
 refine pure_ (i := 2) (N := (some 9)) (v := ?_) (a' := ?_) #[tt,tt,tt,ff,ff,ff,ff,ff,ff,ff,ff,ff] rfl rfl (any_of HT_.out (by kernel_rfl)) (fun _ _ _ h => h) (Or.inl ⟨by rfl, ?_⟩) ?_ ?_
 rotate_left
 ·intro w'
  go_simp
  with_reducible rfl
 rotate_left
 ·simp only [Act.put, sQ0, sQ1, sQ2, i64_w]
  rfl
 refine pure_ (i := 3) (N := (some 10)) (v := ?_) (a' := ?_) #[tt,tt,tt,tt,ff,ff,ff,ff,ff,ff,ff,ff] rfl rfl (any_of HT_.out (by kernel_rfl)) (fun _ _ _ h => h) (Or.inl ⟨by rfl, ?_⟩) ?_ ?_
 rotate_left
 ·intro w'
  go_simp
  with_reducible rfl
 rotate_left
 ·simp only [Act.put, sQ0, sQ1, sQ2, i64_w]
  rfl
 refine pure_ (i := 4) (N := (some 11)) (v := ?_) (a' := ?_) #[tt,tt,tt,tt,tt,ff,ff,ff,ff,ff,ff,ff] rfl rfl (any_of HT_.out (by kernel_rfl)) (fun _ _ _ h => h) (Or.inl ⟨by rfl, ?_⟩) ?_ ?_
 rotate_left
 ·intro w'
  go_simp
  with_reducible rfl
 rotate_left
 ·simp only [Act.put, sQ0, sQ1, sQ2, i64_w]
  rfl
 refine pure_ (i := 6) (N := (some 13)) (v := ?_) (a' := ?_) #[tt,tt,tt,tt,tt,ff,tt,ff,ff,ff,ff,ff] rfl rfl (any_of HT_.out (by kernel_rfl)) (fun _ _ _ h => h) (Or.inl ⟨by rfl, ?_⟩) ?_ ?_
 rotate_left
 ·intro w'
  go_simp
  with_reducible rfl
 rotate_left
 ·simp only [Act.put, sQ0, sQ1, sQ2, i64_w]
  rfl
 refine pure_ (i := 7) (N := (some 14)) (v := ?_) (a' := ?_) #[tt,tt,tt,tt,tt,ff,tt,tt,ff,ff,ff,ff] rfl rfl (any_of HT_.out (by kernel_rfl)) (fun _ _ _ h => h) (Or.inl ⟨by rfl, ?_⟩) ?_ ?_
 rotate_left
 ·intro w'
  go_simp
  with_reducible rfl
 rotate_left
 ·simp only [Act.put, sQ0, sQ1, sQ2, i64_w]
  rfl
 refine pure_ (i := 8) (N := (some 15)) (v := ?_) (a' := ?_) #[tt,tt,tt,tt,tt,ff,tt,tt,tt,ff,ff,ff] rfl rfl (any_of HT_.out (by kernel_rfl)) (fun _ _ _ h => h) (Or.inl ⟨by rfl, ?_⟩) ?_ ?_
 rotate_left
 ·intro w'
  go_simp
  with_reducible rfl
 rotate_left
 ·simp only [Act.put, sQ0, sQ1, sQ2, i64_w]
  rfl
 refine take_ (i := 5) (N := (some 12)) (v := ?_) (a' := ?_) #[tt,tt,tt,tt,tt,tt,tt,tt,tt,ff,ff,ff] rfl rfl (take_ofW HT_.out HW_.out (by kernel_rfl)) (fun _ _ _ h => h) (Or.inl ⟨by rfl, ?_⟩) hHeld ?_ ?_
 rotate_left
 ·rintro w' ⟨s0, s1⟩
  go_simp
  with_reducible rfl
 rotate_left
 ·simp only [Act.put, sQ0, sQ1, sQ2, i64_w]
  rfl
 refine take_ (i := 9) (N := (some 16)) (v := ?_) (a' := ?_) #[tt,tt,tt,tt,tt,tt,tt,tt,tt,tt,ff,ff] rfl rfl (take_ofW HT_.out HW_.out (by kernel_rfl)) (fun _ _ _ h => h) (Or.inl ⟨by rfl, ?_⟩) hHeld ?_ ?_
 rotate_left
 ·rintro w' ⟨s0, s1⟩
  go_simp
  with_reducible rfl
 rotate_left
 ·simp only [Act.put, sQ0, sQ1, sQ2, i64_w]
  rfl
 refine pure_ (i := 10) (N := (some 17)) (v := ?_) (a' := ?_) #[tt,tt,tt,tt,tt,tt,tt,tt,tt,tt,tt,ff] rfl rfl (any_of HT_.out (by kernel_rfl)) (fun _ _ _ h => h) (Or.inl ⟨by rfl, ?_⟩) ?_ ?_
 rotate_left
 ·intro w'
  go_simp
  with_reducible rfl
 rotate_left
 ·simp only [Act.put, sQ0, sQ1, sQ2, i64_w]
  rfl
 refine pure_ (i := 11) (N := (some 18)) (v := ?_) (a' := ?_) #[tt,tt,tt,tt,tt,tt,tt,tt,tt,tt,tt,tt] rfl rfl (any_of HT_.out (by kernel_rfl)) (fun _ _ _ h => h) (Or.inl ⟨by rfl, ?_⟩) ?_ ?_
 rotate_left
 ·intro w'
  go_simp
  with_reducible rfl
 rotate_left
 ·simp only [Act.put, sQ0, sQ1, sQ2, i64_w]
  rfl
 refine done_ (done_of HT_.out (by kernel_rfl)) ?_
 clear hHeld
 clear hlb hle
 have hcb := fun i => HJ3.out.be.cell i
 have hce := fun i => blk_cell HJ3.out.eb_ i
 have hlb := HJ3.out.be.lt
 have hle := blk_lt HJ3.out.eb_
 go_upto_region 3 with (fail)
 refine gen_world' (fun W => Bj w W B b n mb m1 m2 m3 s pf e w.heap.size) (by exact HJ3.out) fun w4 Hw4 => ?_
 have HJw4 := Aside0.mk Hw4
 clear Hw4
 clear hcb hce hlb hle
 have hcb := fun i => HJw4.out.be.cell i
 have hce := fun i => blk_cell HJw4.out.eb_ i
 have hlb := HJw4.out.be.lt
 have hle := blk_lt HJw4.out.eb_
 have hl := fun q => HJw4.out.be.look HWK.out (w4.drewN q) rfl
 rw [pV_some HP.out] at hl
 simp only [Option.getD_some, Option.getD_none, Option.isSome_some, Option.isSome_none] at hl
 go_quiet (fail)
 clear hl
 go_upto_region 6 with (fail)
 refine gen_world' (fun W => Bj w W B b n mb m1 m2 m3 s pf e w.heap.size) (by exact HJw4.out.drewN _) fun w6 Hw6 => ?_
 have HJw6 := Aside0.mk Hw6
 clear Hw6
 clear hcb hce hlb hle
 have hcb := fun i => HJw6.out.be.cell i
 have hce := fun i => blk_cell HJw6.out.eb_ i
 have hlb := HJw6.out.be.lt
 have hle := blk_lt HJw6.out.eb_
 refine start_ (n := 7) (S := (fun w' => (∀ i, w'.cell? ⟨b, i, none⟩ = (beA s.nw mb m3)[i]?) ∧ (∀ i, w'.cell? ⟨w.heap.size, i, none⟩ = (evA e)[i]?))) (ds := [5]) #[ff,ff,ff,ff,ff,ff,ff] (by kernel_rfl) rfl rfl HJw6.out.drew.cells (fun hHeld => ?_)
 refine with_tabW heR.tab6 heR.bits6 (fun HT_ HW_ => ?_)
 have HJ7 := Aside0.mk HJw6.out.drew
 generalize w6.drew = w7 at HJ7 hHeld ⊢
 clear hcb hce hlb hle
 have hlb := HJ7.out.be.lt
 have hle := blk_lt HJ7.out.eb_
 refine pure_ (i := 0) (N := (some 33)) (v := ?_) (a' := ?_) #[tt,ff,ff,ff,ff,ff,ff] rfl rfl (any_of HT_.out (by kernel_rfl)) (fun _ _ _ h => h) (Or.inl ⟨by rfl, ?_⟩) ?_ ?_
 rotate_left
 ·intro w'
  go_simp
  with_reducible rfl
 rotate_left
 ·simp only [Act.put, sQ0, sQ1, sQ2, i64_w]
  rfl
 refine pure_ (i := 1) (N := (some 34)) (v := ?_) (a' := ?_) #[tt,tt,ff,ff,ff,ff,ff] rfl rfl (any_of HT_.out (by kernel_rfl)) (fun _ _ _ h => h) (Or.inl ⟨by rfl, ?_⟩) ?_ ?_
 rotate_left
 ·intro w'
  go_simp
  with_reducible rfl
 rotate_left
 ·simp only [Act.put, sQ0, sQ1, sQ2, i64_w]
  rfl
 refine pure_ (i := 2) (N := (some 35)) (v := ?_) (a' := ?_) #[tt,tt,tt,ff,ff,ff,ff] rfl rfl (any_of HT_.out (by kernel_rfl)) (fun _ _ _ h => h) (Or.inl ⟨by rfl, ?_⟩) ?_ ?_
 rotate_left
 ·intro w'
  go_simp
  with_reducible rfl
 rotate_left
 ·simp only [Act.put, sQ0, sQ1, sQ2, i64_w]
  rfl
 refine take_ (i := 3) (N := (some 36)) (v := ?_) (a' := ?_) #[tt,tt,tt,tt,ff,ff,ff] rfl rfl (take_ofW HT_.out HW_.out (by kernel_rfl)) (fun _ _ _ h => h) (Or.inl ⟨by rfl, ?_⟩) hHeld ?_ ?_
 rotate_left
 ·rintro w' ⟨s0, s1⟩
  go_simp
  with_reducible rfl
 rotate_left
 ·simp only [Act.put, sQ0, sQ1, sQ2, i64_w]
  rfl
 refine take_ (i := 4) (N := (some 37)) (v := ?_) (a' := ?_) #[tt,tt,tt,tt,tt,ff,ff] rfl rfl (take_ofW HT_.out HW_.out (by kernel_rfl)) (fun _ _ _ h => h) (Or.inl ⟨by rfl, ?_⟩) hHeld ?_ ?_
 rotate_left
 ·rintro w' ⟨s0, s1⟩
  go_simp
  with_reducible rfl
 rotate_left
 ·simp only [Act.put, sQ0, sQ1, sQ2, i64_w]
  rfl
 refine last_ (i := 5) (N := (some 38)) #[tt,tt,tt,tt,tt,tt,ff] rfl rfl (one_of HT_.out (by kernel_rfl)) (by decide) (fun K hK => ?_)
 refine call_ (f := 43) #[pA mb, .agg (evA e)] (by rfl) rfl (by go_simp <;> rfl) ?_
 refine (do_any e HW.out (by have := HN.out; omega) HWL.out HJ7.out.be.md).mono ?_
 rintro r w8 ⟨rfl, hm, hf⟩
 refine ⟨_, rfl, ?_⟩
 have HD := Aside0.mk (HJ7.out.model hm (by omega) hf)
 clear hm hf
 refine hK.out _ _ ?_
 clear hK K
 refine norm_ (a' := ?_) ?_ ?_
 rotate_left
 ·show Act.put _ (some 38) _ = _
  simp only [Act.put, sQ0, sQ1, sQ2, i64_w]
  rfl
 refine pure_ (i := 6) (N := (some 4)) (v := ?_) (a' := ?_) #[tt,tt,tt,tt,tt,tt,tt] rfl rfl (any_of HT_.out (by kernel_rfl)) (fun _ _ _ h => h) (Or.inl ⟨by rfl, ?_⟩) ?_ ?_
 rotate_left
 ·intro w'
  go_simp
  with_reducible rfl
 rotate_left
 ·simp only [Act.put, sQ0, sQ1, sQ2, i64_w]
  rfl
 refine done_ (done_of HT_.out (by kernel_rfl)) ?_
 clear hlb hle
 have hcb := fun i => HD.out.be.cell i
 have hce := fun i => blk_cell HD.out.eb_ i
 have hlb := HD.out.be.lt
 have hle := blk_lt HD.out.eb_
 go_wp2
 go_ret
 exact BePost.of HF.out rfl (HD.out.be.up (by omega)) HD.out.bel
theorem hear_invoke_b {w : World} {B b n mb m1 m2 m3 : Nat} {s : Be} {pf : Int → Option Nat} {k : Wk} (e : Ev) (hw : (Lit.int .i64 e.hn).wf = true ∧ (Lit.int .i64 e.hg).wf = true ∧ (Lit.int .i64 e.nn).wf = true ∧ (Lit.int .i64 e.ng).wf = true) (hwk : (Lit.int .i64 e.wk).wf = true) (hn : n + 4 ≤ 1000000) (hwl : ∀ x, (Lit.int .i64 ((s.m.lst x).getD 0)).wf = true) (h : BeIs w B b n s mb m1 m2 m3 pf) (hB : B ≤ w.heap.size) (hr : rightJ e = true) (hnw : ¬ s.nw ≤ e.wk) (hk : e.k = 2) (hs : s.wks e.wk = some k) :
  Calls Try.prog 29 #[pA b, .agg (evA e)] w (BePost w B b n mb m1 m2 m3 (hearF s e)) := by
 have hu0 := Try.underlying61
 have hu1 := Try.underlying34
 have hu2 := Try.underlying54
 have hu3 := Try.underlying119
 have HF := Aside0.mk (show hearF s e = (s, 6) by unfold hearF; rw [if_neg (fun q => by rcases q with q | q; (rw [hr] at q; cases q); omega)]; rw [if_neg (by omega), hs]; simp only; rw [if_pos hk])
 have d0 : decide (e.wk ≥ s.nw) = false := decide_eq_false hnw
 have k1 : (e.k == 1) = false := beq_eq_false_iff_ne.2 (by omega)
 have k2 : (e.k == 2) = true := beq_iff_eq.2 (hk)
 have k3 : (e.k == 3) = false := beq_eq_false_iff_ne.2 (by omega)
 have k4 : (e.k == 4) = false := beq_eq_false_iff_ne.2 (by omega)
 have CR := Aside0.mk (fun W => right_run e W)
 rw [hr] at CR
 have HW := Aside0.mk hw
 have HWK := Aside0.mk hwk
 have HN := Aside0.mk hn
 have HWL := Aside0.mk hwl
 have HJ := Aside0.mk (Bj.start h hB e)
 have HP0 := h.busy hs
 obtain ⟨g, hp, _⟩ := HP0
 have HP := Aside0.mk hp
 clear hp
 clear hw hwk hn hwl h hB hr hnw hk hs
 have hcb := fun i => HJ.out.be.cell i
 have hce := fun i => blk_cell HJ.out.eb_ i
 have hlb := HJ.out.be.lt
 have hle := blk_lt HJ.out.eb_
 go_enter Try.func29, Try.ntmps29
 go_upto_region 1 with (fail)
 refine start_ (n := 12) (S := (fun w' => (∀ i, w'.cell? ⟨b, i, none⟩ = (beA s.nw mb m3)[i]?) ∧ (∀ i, w'.cell? ⟨w.heap.size, i, none⟩ = (evA e)[i]?))) (ds := []) #[ff,ff,ff,ff,ff,ff,ff,ff,ff,ff,ff,ff] (by kernel_rfl) rfl rfl HJ.out.drew.cells (fun hHeld => ?_)
 refine with_tabW heR.tab1 heR.bits1 (fun HT_ HW_ => ?_)
 have HJ2 := Aside0.mk HJ.out.drew
 generalize World.drew _ = w2 at HJ2 hHeld ⊢
 clear hcb hce hlb hle
 have hlb := HJ2.out.be.lt
 have hle := blk_lt HJ2.out.eb_
 refine take_ (i := 0) (N := (some 7)) (v := ?_) (a' := ?_) #[tt,ff,ff,ff,ff,ff,ff,ff,ff,ff,ff,ff] rfl rfl (take_ofW HT_.out HW_.out (by kernel_rfl)) (fun _ _ _ h => h) (Or.inl ⟨by rfl, ?_⟩) hHeld ?_ ?_
 rotate_left
 ·rintro w' ⟨s0, s1⟩
  go_simp
  with_reducible rfl
 rotate_left
 ·simp only [Act.put, sQ0, sQ1, sQ2, i64_w]
  rfl
 refine one_ (i := 1) (N := (some 8)) #[tt,tt,ff,ff,ff,ff,ff,ff,ff,ff,ff,ff] rfl rfl (one_of HT_.out (by kernel_rfl)) (by decide) (fun K hK => ?_)
 refine call_ (f := 65) #[.agg (evA e)] (by rfl) rfl (by go_simp <;> rfl) ?_
 refine (CR.out w2).mono ?_
 rintro r w3 ⟨rfl, hb⟩
 refine ⟨_, rfl, ?_⟩
 have HJ3 := Aside0.mk (HJ2.out.step hb)
 clear hb
 refine hK.out _ _ HJ3.out.cells (fun hHeld => ?_)
 clear hK K
 refine norm_ (a' := ?_) ?_ ?_
 rotate_left
 ·show Act.put _ (some 8) _ = _
  simp only [Act.put, sQ0, sQ1, sQ2, i64_w]
  rfl
 refine pure_ (i := 2) (N := (some 9)) (v := ?_) (a' := ?_) #[tt,tt,tt,ff,ff,ff,ff,ff,ff,ff,ff,ff] rfl rfl (any_of HT_.out (by kernel_rfl)) (fun _ _ _ h => h) (Or.inl ⟨by rfl, ?_⟩) ?_ ?_
 rotate_left
 ·intro w'
  go_simp
  with_reducible rfl
 rotate_left
 ·simp only [Act.put, sQ0, sQ1, sQ2, i64_w]
  rfl
 refine pure_ (i := 3) (N := (some 10)) (v := ?_) (a' := ?_) #[tt,tt,tt,tt,ff,ff,ff,ff,ff,ff,ff,ff] rfl rfl (any_of HT_.out (by kernel_rfl)) (fun _ _ _ h => h) (Or.inl ⟨by rfl, ?_⟩) ?_ ?_
 rotate_left
 ·intro w'
  go_simp
  with_reducible rfl
 rotate_left
 ·simp only [Act.put, sQ0, sQ1, sQ2, i64_w]
  rfl
 refine pure_ (i := 4) (N := (some 11)) (v := ?_) (a' := ?_) #[tt,tt,tt,tt,tt,ff,ff,ff,ff,ff,ff,ff] rfl rfl (any_of HT_.out (by kernel_rfl)) (fun _ _ _ h => h) (Or.inl ⟨by rfl, ?_⟩) ?_ ?_
 rotate_left
 ·intro w'
  go_simp
  with_reducible rfl
 rotate_left
 ·simp only [Act.put, sQ0, sQ1, sQ2, i64_w]
  rfl
 refine pure_ (i := 6) (N := (some 13)) (v := ?_) (a' := ?_) #[tt,tt,tt,tt,tt,ff,tt,ff,ff,ff,ff,ff] rfl rfl (any_of HT_.out (by kernel_rfl)) (fun _ _ _ h => h) (Or.inl ⟨by rfl, ?_⟩) ?_ ?_
 rotate_left
 ·intro w'
  go_simp
  with_reducible rfl
 rotate_left
 ·simp only [Act.put, sQ0, sQ1, sQ2, i64_w]
  rfl
 refine pure_ (i := 7) (N := (some 14)) (v := ?_) (a' := ?_) #[tt,tt,tt,tt,tt,ff,tt,tt,ff,ff,ff,ff] rfl rfl (any_of HT_.out (by kernel_rfl)) (fun _ _ _ h => h) (Or.inl ⟨by rfl, ?_⟩) ?_ ?_
 rotate_left
 ·intro w'
  go_simp
  with_reducible rfl
 rotate_left
 ·simp only [Act.put, sQ0, sQ1, sQ2, i64_w]
  rfl
 refine pure_ (i := 8) (N := (some 15)) (v := ?_) (a' := ?_) #[tt,tt,tt,tt,tt,ff,tt,tt,tt,ff,ff,ff] rfl rfl (any_of HT_.out (by kernel_rfl)) (fun _ _ _ h => h) (Or.inl ⟨by rfl, ?_⟩) ?_ ?_
 rotate_left
 ·intro w'
  go_simp
  with_reducible rfl
 rotate_left
 ·simp only [Act.put, sQ0, sQ1, sQ2, i64_w]
  rfl
 refine take_ (i := 5) (N := (some 12)) (v := ?_) (a' := ?_) #[tt,tt,tt,tt,tt,tt,tt,tt,tt,ff,ff,ff] rfl rfl (take_ofW HT_.out HW_.out (by kernel_rfl)) (fun _ _ _ h => h) (Or.inl ⟨by rfl, ?_⟩) hHeld ?_ ?_
 rotate_left
 ·rintro w' ⟨s0, s1⟩
  go_simp
  with_reducible rfl
 rotate_left
 ·simp only [Act.put, sQ0, sQ1, sQ2, i64_w]
  rfl
 refine take_ (i := 9) (N := (some 16)) (v := ?_) (a' := ?_) #[tt,tt,tt,tt,tt,tt,tt,tt,tt,tt,ff,ff] rfl rfl (take_ofW HT_.out HW_.out (by kernel_rfl)) (fun _ _ _ h => h) (Or.inl ⟨by rfl, ?_⟩) hHeld ?_ ?_
 rotate_left
 ·rintro w' ⟨s0, s1⟩
  go_simp
  with_reducible rfl
 rotate_left
 ·simp only [Act.put, sQ0, sQ1, sQ2, i64_w]
  rfl
 refine pure_ (i := 10) (N := (some 17)) (v := ?_) (a' := ?_) #[tt,tt,tt,tt,tt,tt,tt,tt,tt,tt,tt,ff] rfl rfl (any_of HT_.out (by kernel_rfl)) (fun _ _ _ h => h) (Or.inl ⟨by rfl, ?_⟩) ?_ ?_
 rotate_left
 ·intro w'
  go_simp
  with_reducible rfl
 rotate_left
 ·simp only [Act.put, sQ0, sQ1, sQ2, i64_w]
  rfl
 refine pure_ (i := 11) (N := (some 18)) (v := ?_) (a' := ?_) #[tt,tt,tt,tt,tt,tt,tt,tt,tt,tt,tt,tt] rfl rfl (any_of HT_.out (by kernel_rfl)) (fun _ _ _ h => h) (Or.inl ⟨by rfl, ?_⟩) ?_ ?_
 rotate_left
 ·intro w'
  go_simp
  with_reducible rfl
 rotate_left
 ·simp only [Act.put, sQ0, sQ1, sQ2, i64_w]
  rfl
 refine done_ (done_of HT_.out (by kernel_rfl)) ?_
 clear hHeld
 clear hlb hle
 have hcb := fun i => HJ3.out.be.cell i
 have hce := fun i => blk_cell HJ3.out.eb_ i
 have hlb := HJ3.out.be.lt
 have hle := blk_lt HJ3.out.eb_
 go_upto_region 3 with (fail)
 refine gen_world' (fun W => Bj w W B b n mb m1 m2 m3 s pf e w.heap.size) (by exact HJ3.out) fun w4 Hw4 => ?_
 have HJw4 := Aside0.mk Hw4
 clear Hw4
 clear hcb hce hlb hle
 have hcb := fun i => HJw4.out.be.cell i
 have hce := fun i => blk_cell HJw4.out.eb_ i
 have hlb := HJw4.out.be.lt
 have hle := blk_lt HJw4.out.eb_
 have hl := fun q => HJw4.out.be.look HWK.out (w4.drewN q) rfl
 rw [pV_some HP.out] at hl
 simp only [Option.getD_some, Option.getD_none, Option.isSome_some, Option.isSome_none] at hl
 go_quiet (fail)
 clear hl
 go_wp2
 go_ret
 exact BePost.of HF.out rfl ((HJw4.out.drewN _).be.up (by omega)) (HJw4.out.drewN _).bel
theorem hear_fire_i {w : World} {B b n mb m1 m2 m3 : Nat} {s : Be} {pf : Int → Option Nat} (e : Ev) (hw : (Lit.int .i64 e.hn).wf = true ∧ (Lit.int .i64 e.hg).wf = true ∧ (Lit.int .i64 e.nn).wf = true ∧ (Lit.int .i64 e.ng).wf = true) (hwk : (Lit.int .i64 e.wk).wf = true) (hn : n + 4 ≤ 1000000) (hwl : ∀ x, (Lit.int .i64 ((s.m.lst x).getD 0)).wf = true) (h : BeIs w B b n s mb m1 m2 m3 pf) (hB : B ≤ w.heap.size) (hr : rightJ e = true) (hnw : ¬ s.nw ≤ e.wk) (hk : e.k = 4) (hs : s.wks e.wk = none) :
  Calls Try.prog 29 #[pA b, .agg (evA e)] w (BePost w B b n mb m1 m2 m3 (hearF s e)) := by
 have hu0 := Try.underlying61
 have hu1 := Try.underlying34
 have hu2 := Try.underlying54
 have hu3 := Try.underlying119
 have HF := Aside0.mk (show hearF s e = (s, 6) by unfold hearF; rw [if_neg (fun q => by rcases q with q | q; (rw [hr] at q; cases q); omega)]; rw [if_neg (by omega), hs]; simp only; rw [if_neg (by omega)])
 have d0 : decide (e.wk ≥ s.nw) = false := decide_eq_false hnw
 have k1 : (e.k == 1) = false := beq_eq_false_iff_ne.2 (by omega)
 have k2 : (e.k == 2) = false := beq_eq_false_iff_ne.2 (by omega)
 have k3 : (e.k == 3) = false := beq_eq_false_iff_ne.2 (by omega)
 have k4 : (e.k == 4) = true := beq_iff_eq.2 (hk)
 have CR := Aside0.mk (fun W => right_run e W)
 rw [hr] at CR
 have HW := Aside0.mk hw
 have HWK := Aside0.mk hwk
 have HN := Aside0.mk hn
 have HWL := Aside0.mk hwl
 have HJ := Aside0.mk (Bj.start h hB e)
 have HP := Aside0.mk (h.idle hs)
 clear hw hwk hn hwl h hB hr hnw hk hs
 have hcb := fun i => HJ.out.be.cell i
 have hce := fun i => blk_cell HJ.out.eb_ i
 have hlb := HJ.out.be.lt
 have hle := blk_lt HJ.out.eb_
 go_enter Try.func29, Try.ntmps29
 go_upto_region 1 with (fail)
 refine start_ (n := 12) (S := (fun w' => (∀ i, w'.cell? ⟨b, i, none⟩ = (beA s.nw mb m3)[i]?) ∧ (∀ i, w'.cell? ⟨w.heap.size, i, none⟩ = (evA e)[i]?))) (ds := []) #[ff,ff,ff,ff,ff,ff,ff,ff,ff,ff,ff,ff] (by kernel_rfl) rfl rfl HJ.out.drew.cells (fun hHeld => ?_)
 refine with_tabW heR.tab1 heR.bits1 (fun HT_ HW_ => ?_)
 have HJ2 := Aside0.mk HJ.out.drew
 generalize World.drew _ = w2 at HJ2 hHeld ⊢
 clear hcb hce hlb hle
 have hlb := HJ2.out.be.lt
 have hle := blk_lt HJ2.out.eb_
 refine take_ (i := 0) (N := (some 7)) (v := ?_) (a' := ?_) #[tt,ff,ff,ff,ff,ff,ff,ff,ff,ff,ff,ff] rfl rfl (take_ofW HT_.out HW_.out (by kernel_rfl)) (fun _ _ _ h => h) (Or.inl ⟨by rfl, ?_⟩) hHeld ?_ ?_
 rotate_left
 ·rintro w' ⟨s0, s1⟩
  go_simp
  with_reducible rfl
 rotate_left
 ·simp only [Act.put, sQ0, sQ1, sQ2, i64_w]
  rfl
 refine one_ (i := 1) (N := (some 8)) #[tt,tt,ff,ff,ff,ff,ff,ff,ff,ff,ff,ff] rfl rfl (one_of HT_.out (by kernel_rfl)) (by decide) (fun K hK => ?_)
 refine call_ (f := 65) #[.agg (evA e)] (by rfl) rfl (by go_simp <;> rfl) ?_
 refine (CR.out w2).mono ?_
 rintro r w3 ⟨rfl, hb⟩
 refine ⟨_, rfl, ?_⟩
 have HJ3 := Aside0.mk (HJ2.out.step hb)
 clear hb
 refine hK.out _ _ HJ3.out.cells (fun hHeld => ?_)
 clear hK K
 refine norm_ (a' := ?_) ?_ ?_
 rotate_left
 ·show Act.put _ (some 8) _ = _
  simp only [Act.put, sQ0, sQ1, sQ2, i64_w]
  rfl
 refine pure_ (i := 2) (N := (some 9)) (v := ?_) (a' := ?_) #[tt,tt,tt,ff,ff,ff,ff,ff,ff,ff,ff,ff] rfl rfl (any_of HT_.out (by kernel_rfl)) (fun _ _ _ h => h) (Or.inl ⟨by rfl, ?_⟩) ?_ ?_
 rotate_left
 ·intro w'
  go_simp
  with_reducible rfl
 rotate_left
 ·simp only [Act.put, sQ0, sQ1, sQ2, i64_w]
  rfl
 refine pure_ (i := 3) (N := (some 10)) (v := ?_) (a' := ?_) #[tt,tt,tt,tt,ff,ff,ff,ff,ff,ff,ff,ff] rfl rfl (any_of HT_.out (by kernel_rfl)) (fun _ _ _ h => h) (Or.inl ⟨by rfl, ?_⟩) ?_ ?_
 rotate_left
 ·intro w'
  go_simp
  with_reducible rfl
 rotate_left
 ·simp only [Act.put, sQ0, sQ1, sQ2, i64_w]
  rfl
 refine pure_ (i := 4) (N := (some 11)) (v := ?_) (a' := ?_) #[tt,tt,tt,tt,tt,ff,ff,ff,ff,ff,ff,ff] rfl rfl (any_of HT_.out (by kernel_rfl)) (fun _ _ _ h => h) (Or.inl ⟨by rfl, ?_⟩) ?_ ?_
 rotate_left
 ·intro w'
  go_simp
  with_reducible rfl
 rotate_left
 ·simp only [Act.put, sQ0, sQ1, sQ2, i64_w]
  rfl
 refine pure_ (i := 6) (N := (some 13)) (v := ?_) (a' := ?_) #[tt,tt,tt,tt,tt,ff,tt,ff,ff,ff,ff,ff] rfl rfl (any_of HT_.out (by kernel_rfl)) (fun _ _ _ h => h) (Or.inl ⟨by rfl, ?_⟩) ?_ ?_
 rotate_left
 ·intro w'
  go_simp
  with_reducible rfl
 rotate_left
 ·simp only [Act.put, sQ0, sQ1, sQ2, i64_w]
  rfl
 refine pure_ (i := 7) (N := (some 14)) (v := ?_) (a' := ?_) #[tt,tt,tt,tt,tt,ff,tt,tt,ff,ff,ff,ff] rfl rfl (any_of HT_.out (by kernel_rfl)) (fun _ _ _ h => h) (Or.inl ⟨by rfl, ?_⟩) ?_ ?_
 rotate_left
 ·intro w'
  go_simp
  with_reducible rfl
 rotate_left
 ·simp only [Act.put, sQ0, sQ1, sQ2, i64_w]
  rfl
 refine pure_ (i := 8) (N := (some 15)) (v := ?_) (a' := ?_) #[tt,tt,tt,tt,tt,ff,tt,tt,tt,ff,ff,ff] rfl rfl (any_of HT_.out (by kernel_rfl)) (fun _ _ _ h => h) (Or.inl ⟨by rfl, ?_⟩) ?_ ?_
 rotate_left
 ·intro w'
  go_simp
  with_reducible rfl
 rotate_left
 ·simp only [Act.put, sQ0, sQ1, sQ2, i64_w]
  rfl
 refine take_ (i := 5) (N := (some 12)) (v := ?_) (a' := ?_) #[tt,tt,tt,tt,tt,tt,tt,tt,tt,ff,ff,ff] rfl rfl (take_ofW HT_.out HW_.out (by kernel_rfl)) (fun _ _ _ h => h) (Or.inl ⟨by rfl, ?_⟩) hHeld ?_ ?_
 rotate_left
 ·rintro w' ⟨s0, s1⟩
  go_simp
  with_reducible rfl
 rotate_left
 ·simp only [Act.put, sQ0, sQ1, sQ2, i64_w]
  rfl
 refine take_ (i := 9) (N := (some 16)) (v := ?_) (a' := ?_) #[tt,tt,tt,tt,tt,tt,tt,tt,tt,tt,ff,ff] rfl rfl (take_ofW HT_.out HW_.out (by kernel_rfl)) (fun _ _ _ h => h) (Or.inl ⟨by rfl, ?_⟩) hHeld ?_ ?_
 rotate_left
 ·rintro w' ⟨s0, s1⟩
  go_simp
  with_reducible rfl
 rotate_left
 ·simp only [Act.put, sQ0, sQ1, sQ2, i64_w]
  rfl
 refine pure_ (i := 10) (N := (some 17)) (v := ?_) (a' := ?_) #[tt,tt,tt,tt,tt,tt,tt,tt,tt,tt,tt,ff] rfl rfl (any_of HT_.out (by kernel_rfl)) (fun _ _ _ h => h) (Or.inl ⟨by rfl, ?_⟩) ?_ ?_
 rotate_left
 ·intro w'
  go_simp
  with_reducible rfl
 rotate_left
 ·simp only [Act.put, sQ0, sQ1, sQ2, i64_w]
  rfl
 refine pure_ (i := 11) (N := (some 18)) (v := ?_) (a' := ?_) #[tt,tt,tt,tt,tt,tt,tt,tt,tt,tt,tt,tt] rfl rfl (any_of HT_.out (by kernel_rfl)) (fun _ _ _ h => h) (Or.inl ⟨by rfl, ?_⟩) ?_ ?_
 rotate_left
 ·intro w'
  go_simp
  with_reducible rfl
 rotate_left
 ·simp only [Act.put, sQ0, sQ1, sQ2, i64_w]
  rfl
 refine done_ (done_of HT_.out (by kernel_rfl)) ?_
 clear hHeld
 clear hlb hle
 have hcb := fun i => HJ3.out.be.cell i
 have hce := fun i => blk_cell HJ3.out.eb_ i
 have hlb := HJ3.out.be.lt
 have hle := blk_lt HJ3.out.eb_
 go_upto_region 3 with (fail)
 refine gen_world' (fun W => Bj w W B b n mb m1 m2 m3 s pf e w.heap.size) (by exact HJ3.out) fun w4 Hw4 => ?_
 have HJw4 := Aside0.mk Hw4
 clear Hw4
 clear hcb hce hlb hle
 have hcb := fun i => HJw4.out.be.cell i
 have hce := fun i => blk_cell HJw4.out.eb_ i
 have hlb := HJw4.out.be.lt
 have hle := blk_lt HJw4.out.eb_
 have hl := fun q => HJw4.out.be.look HWK.out (w4.drewN q) rfl
 rw [pV_none HP.out] at hl
 simp only [Option.getD_some, Option.getD_none, Option.isSome_some, Option.isSome_none] at hl
 go_quiet (fail)
 clear hl
 go_upto_region 13 with (fail)
 refine gen_world' (fun W => Bj w W B b n mb m1 m2 m3 s pf e w.heap.size) (by exact HJw4.out.drewN _) fun w5 Hw5 => ?_
 have HJw5 := Aside0.mk Hw5
 clear Hw5
 clear hcb hce hlb hle
 have hcb := fun i => HJw5.out.be.cell i
 have hce := fun i => blk_cell HJw5.out.eb_ i
 have hlb := HJw5.out.be.lt
 have hle := blk_lt HJw5.out.eb_
 go_quiet (fail)
 go_wp2
 go_ret
 exact BePost.of HF.out rfl ((HJw5.out.drewN _).be.up (by omega)) (HJw5.out.drewN _).bel
theorem hear_other_i {w : World} {B b n mb m1 m2 m3 : Nat} {s : Be} {pf : Int → Option Nat} (e : Ev) (hw : (Lit.int .i64 e.hn).wf = true ∧ (Lit.int .i64 e.hg).wf = true ∧ (Lit.int .i64 e.nn).wf = true ∧ (Lit.int .i64 e.ng).wf = true) (hwk : (Lit.int .i64 e.wk).wf = true) (hn : n + 4 ≤ 1000000) (hwl : ∀ x, (Lit.int .i64 ((s.m.lst x).getD 0)).wf = true) (h : BeIs w B b n s mb m1 m2 m3 pf) (hB : B ≤ w.heap.size) (hr : rightJ e = true) (hnw : ¬ s.nw ≤ e.wk) (hk : e.k = 3 ∨ e.k = 5) (hs : s.wks e.wk = none) :
  Calls Try.prog 29 #[pA b, .agg (evA e)] w (BePost w B b n mb m1 m2 m3 (hearF s e)) := by
 have hu0 := Try.underlying61
 have hu1 := Try.underlying34
 have hu2 := Try.underlying54
 have hu3 := Try.underlying119
 have HF := Aside0.mk (show hearF s e = (s, 6) by unfold hearF; rw [if_neg (fun q => by rcases q with q | q; (rw [hr] at q; cases q); omega)]; rw [if_neg (by omega), hs]; simp only; rw [if_neg (by omega)])
 have d0 : decide (e.wk ≥ s.nw) = false := decide_eq_false hnw
 have k1 : (e.k == 1) = false := beq_eq_false_iff_ne.2 (by omega)
 have k2 : (e.k == 2) = false := beq_eq_false_iff_ne.2 (by omega)
 have k4 : (e.k == 4) = false := beq_eq_false_iff_ne.2 (by omega)
 have CR := Aside0.mk (fun W => right_run e W)
 rw [hr] at CR
 have HW := Aside0.mk hw
 have HWK := Aside0.mk hwk
 have HN := Aside0.mk hn
 have HWL := Aside0.mk hwl
 have HJ := Aside0.mk (Bj.start h hB e)
 have HP := Aside0.mk (h.idle hs)
 clear hw hwk hn hwl h hB hr hnw hk hs
 have hcb := fun i => HJ.out.be.cell i
 have hce := fun i => blk_cell HJ.out.eb_ i
 have hlb := HJ.out.be.lt
 have hle := blk_lt HJ.out.eb_
 go_enter Try.func29, Try.ntmps29
 go_upto_region 1 with (fail)
 refine start_ (n := 12) (S := (fun w' => (∀ i, w'.cell? ⟨b, i, none⟩ = (beA s.nw mb m3)[i]?) ∧ (∀ i, w'.cell? ⟨w.heap.size, i, none⟩ = (evA e)[i]?))) (ds := []) #[ff,ff,ff,ff,ff,ff,ff,ff,ff,ff,ff,ff] (by kernel_rfl) rfl rfl HJ.out.drew.cells (fun hHeld => ?_)
 refine with_tabW heR.tab1 heR.bits1 (fun HT_ HW_ => ?_)
 have HJ2 := Aside0.mk HJ.out.drew
 generalize World.drew _ = w2 at HJ2 hHeld ⊢
 clear hcb hce hlb hle
 have hlb := HJ2.out.be.lt
 have hle := blk_lt HJ2.out.eb_
 refine take_ (i := 0) (N := (some 7)) (v := ?_) (a' := ?_) #[tt,ff,ff,ff,ff,ff,ff,ff,ff,ff,ff,ff] rfl rfl (take_ofW HT_.out HW_.out (by kernel_rfl)) (fun _ _ _ h => h) (Or.inl ⟨by rfl, ?_⟩) hHeld ?_ ?_
 rotate_left
 ·rintro w' ⟨s0, s1⟩
  go_simp
  with_reducible rfl
 rotate_left
 ·simp only [Act.put, sQ0, sQ1, sQ2, i64_w]
  rfl
 refine one_ (i := 1) (N := (some 8)) #[tt,tt,ff,ff,ff,ff,ff,ff,ff,ff,ff,ff] rfl rfl (one_of HT_.out (by kernel_rfl)) (by decide) (fun K hK => ?_)
 refine call_ (f := 65) #[.agg (evA e)] (by rfl) rfl (by go_simp <;> rfl) ?_
 refine (CR.out w2).mono ?_
 rintro r w3 ⟨rfl, hb⟩
 refine ⟨_, rfl, ?_⟩
 have HJ3 := Aside0.mk (HJ2.out.step hb)
 clear hb
 refine hK.out _ _ HJ3.out.cells (fun hHeld => ?_)
 clear hK K
 refine norm_ (a' := ?_) ?_ ?_
 rotate_left
 ·show Act.put _ (some 8) _ = _
  simp only [Act.put, sQ0, sQ1, sQ2, i64_w]
  rfl
 refine pure_ (i := 2) (N := (some 9)) (v := ?_) (a' := ?_) #[tt,tt,tt,ff,ff,ff,ff,ff,ff,ff,ff,ff] rfl rfl (any_of HT_.out (by kernel_rfl)) (fun _ _ _ h => h) (Or.inl ⟨by rfl, ?_⟩) ?_ ?_
 rotate_left
 ·intro w'
  go_simp
  with_reducible rfl
 rotate_left
 ·simp only [Act.put, sQ0, sQ1, sQ2, i64_w]
  rfl
 refine pure_ (i := 3) (N := (some 10)) (v := ?_) (a' := ?_) #[tt,tt,tt,tt,ff,ff,ff,ff,ff,ff,ff,ff] rfl rfl (any_of HT_.out (by kernel_rfl)) (fun _ _ _ h => h) (Or.inl ⟨by rfl, ?_⟩) ?_ ?_
 rotate_left
 ·intro w'
  go_simp
  with_reducible rfl
 rotate_left
 ·simp only [Act.put, sQ0, sQ1, sQ2, i64_w]
  rfl
 refine pure_ (i := 4) (N := (some 11)) (v := ?_) (a' := ?_) #[tt,tt,tt,tt,tt,ff,ff,ff,ff,ff,ff,ff] rfl rfl (any_of HT_.out (by kernel_rfl)) (fun _ _ _ h => h) (Or.inl ⟨by rfl, ?_⟩) ?_ ?_
 rotate_left
 ·intro w'
  go_simp
  with_reducible rfl
 rotate_left
 ·simp only [Act.put, sQ0, sQ1, sQ2, i64_w]
  rfl
 refine pure_ (i := 6) (N := (some 13)) (v := ?_) (a' := ?_) #[tt,tt,tt,tt,tt,ff,tt,ff,ff,ff,ff,ff] rfl rfl (any_of HT_.out (by kernel_rfl)) (fun _ _ _ h => h) (Or.inl ⟨by rfl, ?_⟩) ?_ ?_
 rotate_left
 ·intro w'
  go_simp
  with_reducible rfl
 rotate_left
 ·simp only [Act.put, sQ0, sQ1, sQ2, i64_w]
  rfl
 refine pure_ (i := 7) (N := (some 14)) (v := ?_) (a' := ?_) #[tt,tt,tt,tt,tt,ff,tt,tt,ff,ff,ff,ff] rfl rfl (any_of HT_.out (by kernel_rfl)) (fun _ _ _ h => h) (Or.inl ⟨by rfl, ?_⟩) ?_ ?_
 rotate_left
 ·intro w'
  go_simp
  with_reducible rfl
 rotate_left
 ·simp only [Act.put, sQ0, sQ1, sQ2, i64_w]
  rfl
 refine pure_ (i := 8) (N := (some 15)) (v := ?_) (a' := ?_) #[tt,tt,tt,tt,tt,ff,tt,tt,tt,ff,ff,ff] rfl rfl (any_of HT_.out (by kernel_rfl)) (fun _ _ _ h => h) (Or.inl ⟨by rfl, ?_⟩) ?_ ?_
 rotate_left
 ·intro w'
  go_simp
  with_reducible rfl
 rotate_left
 ·simp only [Act.put, sQ0, sQ1, sQ2, i64_w]
  rfl
 refine take_ (i := 5) (N := (some 12)) (v := ?_) (a' := ?_) #[tt,tt,tt,tt,tt,tt,tt,tt,tt,ff,ff,ff] rfl rfl (take_ofW HT_.out HW_.out (by kernel_rfl)) (fun _ _ _ h => h) (Or.inl ⟨by rfl, ?_⟩) hHeld ?_ ?_
 rotate_left
 ·rintro w' ⟨s0, s1⟩
  go_simp
  with_reducible rfl
 rotate_left
 ·simp only [Act.put, sQ0, sQ1, sQ2, i64_w]
  rfl
 refine take_ (i := 9) (N := (some 16)) (v := ?_) (a' := ?_) #[tt,tt,tt,tt,tt,tt,tt,tt,tt,tt,ff,ff] rfl rfl (take_ofW HT_.out HW_.out (by kernel_rfl)) (fun _ _ _ h => h) (Or.inl ⟨by rfl, ?_⟩) hHeld ?_ ?_
 rotate_left
 ·rintro w' ⟨s0, s1⟩
  go_simp
  with_reducible rfl
 rotate_left
 ·simp only [Act.put, sQ0, sQ1, sQ2, i64_w]
  rfl
 refine pure_ (i := 10) (N := (some 17)) (v := ?_) (a' := ?_) #[tt,tt,tt,tt,tt,tt,tt,tt,tt,tt,tt,ff] rfl rfl (any_of HT_.out (by kernel_rfl)) (fun _ _ _ h => h) (Or.inl ⟨by rfl, ?_⟩) ?_ ?_
 rotate_left
 ·intro w'
  go_simp
  with_reducible rfl
 rotate_left
 ·simp only [Act.put, sQ0, sQ1, sQ2, i64_w]
  rfl
 refine pure_ (i := 11) (N := (some 18)) (v := ?_) (a' := ?_) #[tt,tt,tt,tt,tt,tt,tt,tt,tt,tt,tt,tt] rfl rfl (any_of HT_.out (by kernel_rfl)) (fun _ _ _ h => h) (Or.inl ⟨by rfl, ?_⟩) ?_ ?_
 rotate_left
 ·intro w'
  go_simp
  with_reducible rfl
 rotate_left
 ·simp only [Act.put, sQ0, sQ1, sQ2, i64_w]
  rfl
 refine done_ (done_of HT_.out (by kernel_rfl)) ?_
 clear hHeld
 clear hlb hle
 have hcb := fun i => HJ3.out.be.cell i
 have hce := fun i => blk_cell HJ3.out.eb_ i
 have hlb := HJ3.out.be.lt
 have hle := blk_lt HJ3.out.eb_
 go_upto_region 3 with (fail)
 refine gen_world' (fun W => Bj w W B b n mb m1 m2 m3 s pf e w.heap.size) (by exact HJ3.out) fun w4 Hw4 => ?_
 have HJw4 := Aside0.mk Hw4
 clear Hw4
 clear hcb hce hlb hle
 have hcb := fun i => HJw4.out.be.cell i
 have hce := fun i => blk_cell HJw4.out.eb_ i
 have hlb := HJw4.out.be.lt
 have hle := blk_lt HJw4.out.eb_
 have hl := fun q => HJw4.out.be.look HWK.out (w4.drewN q) rfl
 rw [pV_none HP.out] at hl
 simp only [Option.getD_some, Option.getD_none, Option.isSome_some, Option.isSome_none] at hl
 go_quiet (fail)
 clear hl
 go_upto_region 16 with (fail)
 refine gen_world' (fun W => Bj w W B b n mb m1 m2 m3 s pf e w.heap.size) (by exact HJw4.out.drewN _) fun w5 Hw5 => ?_
 have HJw5 := Aside0.mk Hw5
 clear Hw5
 clear hcb hce hlb hle
 have hcb := fun i => HJw5.out.be.cell i
 have hce := fun i => blk_cell HJw5.out.eb_ i
 have hlb := HJw5.out.be.lt
 have hle := blk_lt HJw5.out.eb_
 go_quiet (fail)
 go_wp2
 go_ret
 exact BePost.of HF.out rfl ((HJw5.out.drewN _).be.up (by omega)) (HJw5.out.drewN _).bel
theorem hear_invoke {w : World} {B b n mb m1 m2 m3 : Nat} {s : Be} {pf : Int → Option Nat} (e : Ev) (hw : (Lit.int .i64 e.hn).wf = true ∧ (Lit.int .i64 e.hg).wf = true ∧ (Lit.int .i64 e.nn).wf = true ∧ (Lit.int .i64 e.ng).wf = true) (hwk : (Lit.int .i64 e.wk).wf = true) (hn : n + 4 ≤ 1000000) (hwl : ∀ x, (Lit.int .i64 ((s.m.lst x).getD 0)).wf = true) (h : BeIs w B b n s mb m1 m2 m3 pf) (hB : B ≤ w.heap.size) (hr : rightJ e = true) (hnw : ¬ s.nw ≤ e.wk) (hk : e.k = 2) (hs : s.wks e.wk = none) :
  Calls Try.prog 29 #[pA b, .agg (evA e)] w (BePost w B b n mb m1 m2 m3 (hearF s e)) := by
 have hu0 := Try.underlying61
 have hu1 := Try.underlying34
 have hu2 := Try.underlying54
 have hu3 := Try.underlying119
 have HF := Aside0.mk (show hearF s e = ({ s with wks := updW s.wks e.wk (some ⟨e.op, e.hn, e.hg, e.t, s.m.clk, none⟩) }, 0) by unfold hearF; rw [if_neg (fun q => by rcases q with q | q; (rw [hr] at q; cases q); omega)]; rw [if_neg (by omega), hs]; simp only; rw [if_pos hk])
 have d0 : decide (e.wk ≥ s.nw) = false := decide_eq_false hnw
 have k1 : (e.k == 1) = false := beq_eq_false_iff_ne.2 (by omega)
 have k2 : (e.k == 2) = true := beq_iff_eq.2 (hk)
 have k3 : (e.k == 3) = false := beq_eq_false_iff_ne.2 (by omega)
 have k4 : (e.k == 4) = false := beq_eq_false_iff_ne.2 (by omega)
 have CR := Aside0.mk (fun W => right_run e W)
 rw [hr] at CR
 have HW := Aside0.mk hw
 have HWK := Aside0.mk hwk
 have HN := Aside0.mk hn
 have HWL := Aside0.mk hwl
 have HJ := Aside0.mk (Bj.start h hB e)
 have HP := Aside0.mk (h.idle hs)
 have HS := Aside0.mk hs
 clear hw hwk hn hwl h hB hr hnw hk hs
 have hcb := fun i => HJ.out.be.cell i
 have hce := fun i => blk_cell HJ.out.eb_ i
 have hlb := HJ.out.be.lt
 have hle := blk_lt HJ.out.eb_
 go_enter Try.func29, Try.ntmps29
 go_upto_region 1 with (fail)
 refine start_ (n := 12) (S := (fun w' => (∀ i, w'.cell? ⟨b, i, none⟩ = (beA s.nw mb m3)[i]?) ∧ (∀ i, w'.cell? ⟨w.heap.size, i, none⟩ = (evA e)[i]?))) (ds := []) #[ff,ff,ff,ff,ff,ff,ff,ff,ff,ff,ff,ff] (by kernel_rfl) rfl rfl HJ.out.drew.cells (fun hHeld => ?_)
 refine with_tabW heR.tab1 heR.bits1 (fun HT_ HW_ => ?_)
 have HJ2 := Aside0.mk HJ.out.drew
 generalize World.drew _ = w2 at HJ2 hHeld ⊢
 clear hcb hce hlb hle
 have hlb := HJ2.out.be.lt
 have hle := blk_lt HJ2.out.eb_
 refine take_ (i := 0) (N := (some 7)) (v := ?_) (a' := ?_) #[tt,ff,ff,ff,ff,ff,ff,ff,ff,ff,ff,ff] rfl rfl (take_ofW HT_.out HW_.out (by kernel_rfl)) (fun _ _ _ h => h) (Or.inl ⟨by rfl, ?_⟩) hHeld ?_ ?_
 rotate_left
 ·rintro w' ⟨s0, s1⟩
  go_simp
  with_reducible rfl
 rotate_left
 ·simp only [Act.put, sQ0, sQ1, sQ2, i64_w]
  rfl
 refine one_ (i := 1) (N := (some 8)) #[tt,tt,ff,ff,ff,ff,ff,ff,ff,ff,ff,ff] rfl rfl (one_of HT_.out (by kernel_rfl)) (by decide) (fun K hK => ?_)
 refine call_ (f := 65) #[.agg (evA e)] (by rfl) rfl (by go_simp <;> rfl) ?_
 refine (CR.out w2).mono ?_
 rintro r w3 ⟨rfl, hb⟩
 refine ⟨_, rfl, ?_⟩
 have HJ3 := Aside0.mk (HJ2.out.step hb)
 clear hb
 refine hK.out _ _ HJ3.out.cells (fun hHeld => ?_)
 clear hK K
 refine norm_ (a' := ?_) ?_ ?_
 rotate_left
 ·show Act.put _ (some 8) _ = _
  simp only [Act.put, sQ0, sQ1, sQ2, i64_w]
  rfl
 refine pure_ (i := 2) (N := (some 9)) (v := ?_) (a' := ?_) #[tt,tt,tt,ff,ff,ff,ff,ff,ff,ff,ff,ff] rfl rfl (any_of HT_.out (by kernel_rfl)) (fun _ _ _ h => h) (Or.inl ⟨by rfl, ?_⟩) ?_ ?_
 rotate_left
 ·intro w'
  go_simp
  with_reducible rfl
 rotate_left
 ·simp only [Act.put, sQ0, sQ1, sQ2, i64_w]
  rfl
 refine pure_ (i := 3) (N := (some 10)) (v := ?_) (a' := ?_) #[tt,tt,tt,tt,ff,ff,ff,ff,ff,ff,ff,ff] rfl rfl (any_of HT_.out (by kernel_rfl)) (fun _ _ _ h => h) (Or.inl ⟨by rfl, ?_⟩) ?_ ?_
 rotate_left
 ·intro w'
  go_simp
  with_reducible rfl
 rotate_left
 ·simp only [Act.put, sQ0, sQ1, sQ2, i64_w]
  rfl
 refine pure_ (i := 4) (N := (some 11)) (v := ?_) (a' := ?_) #[tt,tt,tt,tt,tt,ff,ff,ff,ff,ff,ff,ff] rfl rfl (any_of HT_.out (by kernel_rfl)) (fun _ _ _ h => h) (Or.inl ⟨by rfl, ?_⟩) ?_ ?_
 rotate_left
 ·intro w'
  go_simp
  with_reducible rfl
 rotate_left
 ·simp only [Act.put, sQ0, sQ1, sQ2, i64_w]
  rfl
 refine pure_ (i := 6) (N := (some 13)) (v := ?_) (a' := ?_) #[tt,tt,tt,tt,tt,ff,tt,ff,ff,ff,ff,ff] rfl rfl (any_of HT_.out (by kernel_rfl)) (fun _ _ _ h => h) (Or.inl ⟨by rfl, ?_⟩) ?_ ?_
 rotate_left
 ·intro w'
  go_simp
  with_reducible rfl
 rotate_left
 ·simp only [Act.put, sQ0, sQ1, sQ2, i64_w]
  rfl
 refine pure_ (i := 7) (N := (some 14)) (v := ?_) (a' := ?_) #[tt,tt,tt,tt,tt,ff,tt,tt,ff,ff,ff,ff] rfl rfl (any_of HT_.out (by kernel_rfl)) (fun _ _ _ h => h) (Or.inl ⟨by rfl, ?_⟩) ?_ ?_
 rotate_left
 ·intro w'
  go_simp
  with_reducible rfl
 rotate_left
 ·simp only [Act.put, sQ0, sQ1, sQ2, i64_w]
  rfl
 refine pure_ (i := 8) (N := (some 15)) (v := ?_) (a' := ?_) #[tt,tt,tt,tt,tt,ff,tt,tt,tt,ff,ff,ff] rfl rfl (any_of HT_.out (by kernel_rfl)) (fun _ _ _ h => h) (Or.inl ⟨by rfl, ?_⟩) ?_ ?_
 rotate_left
 ·intro w'
  go_simp
  with_reducible rfl
 rotate_left
 ·simp only [Act.put, sQ0, sQ1, sQ2, i64_w]
  rfl
 refine take_ (i := 5) (N := (some 12)) (v := ?_) (a' := ?_) #[tt,tt,tt,tt,tt,tt,tt,tt,tt,ff,ff,ff] rfl rfl (take_ofW HT_.out HW_.out (by kernel_rfl)) (fun _ _ _ h => h) (Or.inl ⟨by rfl, ?_⟩) hHeld ?_ ?_
 rotate_left
 ·rintro w' ⟨s0, s1⟩
  go_simp
  with_reducible rfl
 rotate_left
 ·simp only [Act.put, sQ0, sQ1, sQ2, i64_w]
  rfl
 refine take_ (i := 9) (N := (some 16)) (v := ?_) (a' := ?_) #[tt,tt,tt,tt,tt,tt,tt,tt,tt,tt,ff,ff] rfl rfl (take_ofW HT_.out HW_.out (by kernel_rfl)) (fun _ _ _ h => h) (Or.inl ⟨by rfl, ?_⟩) hHeld ?_ ?_
 rotate_left
 ·rintro w' ⟨s0, s1⟩
  go_simp
  with_reducible rfl
 rotate_left
 ·simp only [Act.put, sQ0, sQ1, sQ2, i64_w]
  rfl
 refine pure_ (i := 10) (N := (some 17)) (v := ?_) (a' := ?_) #[tt,tt,tt,tt,tt,tt,tt,tt,tt,tt,tt,ff] rfl rfl (any_of HT_.out (by kernel_rfl)) (fun _ _ _ h => h) (Or.inl ⟨by rfl, ?_⟩) ?_ ?_
 rotate_left
 ·intro w'
  go_simp
  with_reducible rfl
 rotate_left
 ·simp only [Act.put, sQ0, sQ1, sQ2, i64_w]
  rfl
 refine pure_ (i := 11) (N := (some 18)) (v := ?_) (a' := ?_) #[tt,tt,tt,tt,tt,tt,tt,tt,tt,tt,tt,tt] rfl rfl (any_of HT_.out (by kernel_rfl)) (fun _ _ _ h => h) (Or.inl ⟨by rfl, ?_⟩) ?_ ?_
 rotate_left
 ·intro w'
  go_simp
  with_reducible rfl
 rotate_left
 ·simp only [Act.put, sQ0, sQ1, sQ2, i64_w]
  rfl
 refine done_ (done_of HT_.out (by kernel_rfl)) ?_
 clear hHeld
 clear hlb hle
 have hcb := fun i => HJ3.out.be.cell i
 have hce := fun i => blk_cell HJ3.out.eb_ i
 have hlb := HJ3.out.be.lt
 have hle := blk_lt HJ3.out.eb_
 go_upto_region 3 with (fail)
 refine gen_world' (fun W => Bj w W B b n mb m1 m2 m3 s pf e w.heap.size) (by exact HJ3.out) fun w4 Hw4 => ?_
 have HJw4 := Aside0.mk Hw4
 clear Hw4
 clear hcb hce hlb hle
 have hcb := fun i => HJw4.out.be.cell i
 have hce := fun i => blk_cell HJw4.out.eb_ i
 have hlb := HJw4.out.be.lt
 have hle := blk_lt HJw4.out.eb_
 have hl := fun q => HJw4.out.be.look HWK.out (w4.drewN q) rfl
 rw [pV_none HP.out] at hl
 simp only [Option.getD_some, Option.getD_none, Option.isSome_some, Option.isSome_none] at hl
 go_quiet (fail)
 clear hl
 go_upto_region 10 with (fail)
 refine gen_world' (fun W => Bj w W B b n mb m1 m2 m3 s pf e w.heap.size) (by exact HJw4.out.drewN _) fun w6 Hw6 => ?_
 have HJw6 := Aside0.mk Hw6
 clear Hw6
 clear hcb hce hlb hle
 have hcb := fun i => HJw6.out.be.cell i
 have hce := fun i => blk_cell HJw6.out.eb_ i
 have hlb := HJw6.out.be.lt
 have hle := blk_lt HJw6.out.eb_
 refine start_ (n := 15) (S := (fun w' => (∀ i, w'.cell? ⟨b, i, none⟩ = (beA s.nw mb m3)[i]?) ∧ (∀ i, w'.cell? ⟨w.heap.size, i, none⟩ = (evA e)[i]?))) (ds := [14]) #[ff,ff,ff,ff,ff,ff,ff,ff,ff,ff,ff,ff,ff,ff,ff] (by kernel_rfl) rfl rfl HJw6.out.drew.cells (fun hHeld => ?_)
 refine with_tabW heR.tab10 heR.bits10 (fun HT_ HW_ => ?_)
 have HJ7 := Aside0.mk HJw6.out.drew
 generalize w6.drew = w7 at HJ7 hHeld ⊢
 clear hcb hce hlb hle
 have hlb := HJ7.out.be.lt
 have hle := blk_lt HJ7.out.eb_
 refine pure_ (i := 0) (N := (some 42)) (v := ?_) (a' := ?_) #[tt,ff,ff,ff,ff,ff,ff,ff,ff,ff,ff,ff,ff,ff,ff] rfl rfl (any_of HT_.out (by kernel_rfl)) (fun _ _ _ h => h) (Or.inl ⟨by rfl, ?_⟩) ?_ ?_
 rotate_left
 ·intro w'
  go_simp
  with_reducible rfl
 rotate_left
 ·simp only [Act.put, sQ0, sQ1, sQ2, i64_w]
  rfl
 refine pure_ (i := 1) (N := (some 43)) (v := ?_) (a' := ?_) #[tt,tt,ff,ff,ff,ff,ff,ff,ff,ff,ff,ff,ff,ff,ff] rfl rfl (any_of HT_.out (by kernel_rfl)) (fun _ _ _ h => h) (Or.inl ⟨by rfl, ?_⟩) ?_ ?_
 rotate_left
 ·intro w'
  go_simp
  with_reducible rfl
 rotate_left
 ·simp only [Act.put, sQ0, sQ1, sQ2, i64_w]
  rfl
 refine pure_ (i := 2) (N := (some 44)) (v := ?_) (a' := ?_) #[tt,tt,tt,ff,ff,ff,ff,ff,ff,ff,ff,ff,ff,ff,ff] rfl rfl (any_of HT_.out (by kernel_rfl)) (fun _ _ _ h => h) (Or.inl ⟨by rfl, ?_⟩) ?_ ?_
 rotate_left
 ·intro w'
  go_simp
  with_reducible rfl
 rotate_left
 ·simp only [Act.put, sQ0, sQ1, sQ2, i64_w]
  rfl
 refine pure_ (i := 4) (N := (some 46)) (v := ?_) (a' := ?_) #[tt,tt,tt,ff,tt,ff,ff,ff,ff,ff,ff,ff,ff,ff,ff] rfl rfl (any_of HT_.out (by kernel_rfl)) (fun _ _ _ h => h) (Or.inl ⟨by rfl, ?_⟩) ?_ ?_
 rotate_left
 ·intro w'
  go_simp
  with_reducible rfl
 rotate_left
 ·simp only [Act.put, sQ0, sQ1, sQ2, i64_w]
  rfl
 refine pure_ (i := 7) (N := (some 49)) (v := ?_) (a' := ?_) #[tt,tt,tt,ff,tt,ff,ff,tt,ff,ff,ff,ff,ff,ff,ff] rfl rfl (any_of HT_.out (by kernel_rfl)) (fun _ _ _ h => h) (Or.inl ⟨by rfl, ?_⟩) ?_ ?_
 rotate_left
 ·intro w'
  go_simp
  with_reducible rfl
 rotate_left
 ·simp only [Act.put, sQ0, sQ1, sQ2, i64_w]
  rfl
 refine pure_ (i := 8) (N := (some 50)) (v := ?_) (a' := ?_) #[tt,tt,tt,ff,tt,ff,ff,tt,tt,ff,ff,ff,ff,ff,ff] rfl rfl (any_of HT_.out (by kernel_rfl)) (fun _ _ _ h => h) (Or.inl ⟨by rfl, ?_⟩) ?_ ?_
 rotate_left
 ·intro w'
  go_simp
  with_reducible rfl
 rotate_left
 ·simp only [Act.put, sQ0, sQ1, sQ2, i64_w]
  rfl
 refine pure_ (i := 9) (N := (some 51)) (v := ?_) (a' := ?_) #[tt,tt,tt,ff,tt,ff,ff,tt,tt,tt,ff,ff,ff,ff,ff] rfl rfl (any_of HT_.out (by kernel_rfl)) (fun _ _ _ h => h) (Or.inl ⟨by rfl, ?_⟩) ?_ ?_
 rotate_left
 ·intro w'
  go_simp
  with_reducible rfl
 rotate_left
 ·simp only [Act.put, sQ0, sQ1, sQ2, i64_w]
  rfl
 refine take_ (i := 3) (N := (some 45)) (v := ?_) (a' := ?_) #[tt,tt,tt,tt,tt,ff,ff,tt,tt,tt,ff,ff,ff,ff,ff] rfl rfl (take_ofW HT_.out HW_.out (by kernel_rfl)) (fun _ _ _ h => h) (Or.inl ⟨by rfl, ?_⟩) hHeld ?_ ?_
 rotate_left
 ·rintro w' ⟨s0, s1⟩
  go_simp
  with_reducible rfl
 rotate_left
 ·simp only [Act.put, sQ0, sQ1, sQ2, i64_w]
  rfl
 refine take_ (i := 5) (N := (some 47)) (v := ?_) (a' := ?_) #[tt,tt,tt,tt,tt,tt,ff,tt,tt,tt,ff,ff,ff,ff,ff] rfl rfl (take_ofW HT_.out HW_.out (by kernel_rfl)) (fun _ _ _ h => h) (Or.inl ⟨by rfl, ?_⟩) hHeld ?_ ?_
 rotate_left
 ·rintro w' ⟨s0, s1⟩
  go_simp
  with_reducible rfl
 rotate_left
 ·simp only [Act.put, sQ0, sQ1, sQ2, i64_w]
  rfl
 refine take_ (i := 6) (N := (some 48)) (v := ?_) (a' := ?_) #[tt,tt,tt,tt,tt,tt,tt,tt,tt,tt,ff,ff,ff,ff,ff] rfl rfl (take_ofW HT_.out HW_.out (by kernel_rfl)) (fun _ _ _ h => h) (Or.inl ⟨by rfl, ?_⟩) hHeld ?_ ?_
 rotate_left
 ·rintro w' ⟨s0, s1⟩
  go_simp
  with_reducible rfl
 rotate_left
 ·simp only [Act.put, sQ0, sQ1, sQ2, i64_w]
  rfl
 refine take_ (i := 10) (N := (some 52)) (v := ?_) (a' := ?_) #[tt,tt,tt,tt,tt,tt,tt,tt,tt,tt,tt,ff,ff,ff,ff] rfl rfl (take_ofW HT_.out HW_.out (by kernel_rfl)) (fun _ _ _ h => h) (Or.inl ⟨by rfl, ?_⟩) hHeld ?_ ?_
 rotate_left
 ·rintro w' ⟨s0, s1⟩
  go_simp
  with_reducible rfl
 rotate_left
 ·simp only [Act.put, sQ0, sQ1, sQ2, i64_w]
  rfl
 refine one_ (i := 11) (N := (some 53)) #[tt,tt,tt,tt,tt,tt,tt,tt,tt,tt,tt,tt,ff,ff,ff] rfl rfl (one_of HT_.out (by kernel_rfl)) (by decide) (fun K hK => ?_)
 refine call_ (f := 41) #[pA mb] (by rfl) rfl (by go_simp <;> rfl) ?_
 refine (model_clock HJ7.out.be.md).mono ?_
 rintro r w8 ⟨rfl, rfl⟩
 refine ⟨_, rfl, ?_⟩
 refine hK.out _ _ HJ7.out.cells (fun hHeld => ?_)
 clear hK K
 refine norm_ (a' := ?_) ?_ ?_
 rotate_left
 ·show Act.put _ (some 53) _ = _
  simp only [Act.put, sQ0, sQ1, sQ2, i64_w]
  rfl
 refine pure_ (i := 12) (N := (some 54)) (v := ?_) (a' := ?_) #[tt,tt,tt,tt,tt,tt,tt,tt,tt,tt,tt,tt,tt,ff,ff] rfl rfl (any_of HT_.out (by kernel_rfl)) (fun _ _ _ h => h) (Or.inl ⟨by rfl, ?_⟩) ?_ ?_
 rotate_left
 ·intro w'
  go_simp
  with_reducible rfl
 rotate_left
 ·simp only [Act.put, sQ0, sQ1, sQ2, i64_w]
  rfl
 refine one_ (i := 13) (N := (some 55)) #[tt,tt,tt,tt,tt,tt,tt,tt,tt,tt,tt,tt,tt,tt,ff] rfl rfl (one_of HT_.out (by kernel_rfl)) (by decide) (fun K hK => ?_)
 refine value_ (by rfl) rfl (v := pA w7.heap.size) (w1 := w7.alloc (.cells (wkA e s.m.clk none) 119)) (by go_simp <;> rfl) ?_
 refine hK.out _ _ (HJ7.out.alloc _).cells (fun hHeld => ?_)
 clear hK K
 refine norm_ (a' := ?_) ?_ ?_
 rotate_left
 ·show Act.put _ (some 55) _ = _
  simp only [Act.put, sQ0, sQ1, sQ2, i64_w]
  rfl
 refine last_ (i := 14) (N := none) #[tt,tt,tt,tt,tt,tt,tt,tt,tt,tt,tt,tt,tt,tt,tt] rfl rfl (one_of HT_.out (by kernel_rfl)) (by decide) (fun K hK => ?_)
 refine if_wp rfl ?_
 obtain ⟨z, hz, hm, hnext⟩ := HJ7.out.be.invoke (below_alloc (Below.refl _ _) (.cells (wkA e s.m.clk none) 119)) (blk_new w7 (.cells (wkA e s.m.clk none) 119)) (Nat.le_refl _) (by have := HJ7.out.bel.size; have := HJ7.out.hB; omega) HS.out
 refine wp_store int_inj' _ _ _ 59 (by rfl) hm lawI Try.underlying59 (by unfold maxLen; have := HN.out; omega) (y := e.wk) (keyOf_int_mk Try.underlying3 HWK.out) (val := pA w7.heap.size) (by rfl) (by rfl) (by rfl) ?_
 intro w9 hm9 hg9
 have HI := Aside0.mk (And.intro (hnext w9 hm9 hg9) (show Blw B w w9 from (HJ7.out.bel.then HJ7.out.hB (below_alloc (Below.refl _ _) (.cells (wkA e s.m.clk none) 119))).trans (Blw.map hg9 (by have := HJ7.out.bel.size; have := HJ7.out.hB; simp; omega) HJ7.out.be.h3 (HJ7.out.be.alloc _).map3)))
 clear hm9 hg9 hnext hm hz
 refine hK.out _ _ ?_
 clear hK K
 refine done_ (done_of HT_.out (by kernel_rfl)) ?_
 go_wp2
 go_ret
 exact BePost.of HF.out rfl (HI.out.1.up (by omega)) HI.out.2
theorem hear_fire_op {w : World} {B b n mb m1 m2 m3 : Nat} {s : Be} {pf : Int → Option Nat} {k : Wk} (e : Ev) (hw : (Lit.int .i64 e.hn).wf = true ∧ (Lit.int .i64 e.hg).wf = true ∧ (Lit.int .i64 e.nn).wf = true ∧ (Lit.int .i64 e.ng).wf = true) (hwk : (Lit.int .i64 e.wk).wf = true) (hn : n + 4 ≤ 1000000) (hwl : ∀ x, (Lit.int .i64 ((s.m.lst x).getD 0)).wf = true) (h : BeIs w B b n s mb m1 m2 m3 pf) (hB : B ≤ w.heap.size) (hr : rightJ e = true) (hnw : ¬ s.nw ≤ e.wk) (hk : e.k = 4) (ho : ¬ k.op = 5) (hs : s.wks e.wk = some k) :
  Calls Try.prog 29 #[pA b, .agg (evA e)] w (BePost w B b n mb m1 m2 m3 (hearF s e)) := by
 have hu0 := Try.underlying61
 have hu1 := Try.underlying34
 have hu2 := Try.underlying54
 have hu3 := Try.underlying119
 have HF := Aside0.mk (show hearF s e = (s, 6) by unfold hearF; rw [if_neg (fun q => by rcases q with q | q; (rw [hr] at q; cases q); omega)]; rw [if_neg (by omega), hs]; simp only; rw [if_neg (by omega), if_pos hk, if_pos (.inl ho)])
 have d0 : decide (e.wk ≥ s.nw) = false := decide_eq_false hnw
 have k1 : (e.k == 1) = false := beq_eq_false_iff_ne.2 (by omega)
 have k2 : (e.k == 2) = false := beq_eq_false_iff_ne.2 (by omega)
 have k3 : (e.k == 3) = false := beq_eq_false_iff_ne.2 (by omega)
 have k4 : (e.k == 4) = true := beq_iff_eq.2 (hk)
 have f0 : (k.op != 5) = true := bne_iff_ne.2 (ho)
 have CR := Aside0.mk (fun W => right_run e W)
 rw [hr] at CR
 have HW := Aside0.mk hw
 have HWK := Aside0.mk hwk
 have HN := Aside0.mk hn
 have HWL := Aside0.mk hwl
 have HJ := Aside0.mk (Bj.start h hB e)
 have HP0 := h.busy hs
 obtain ⟨g, hp, _⟩ := HP0
 have HP := Aside0.mk hp
 clear hp
 have HS := Aside0.mk hs
 clear hw hwk hn hwl h hB hr hnw hk ho hs
 have hcb := fun i => HJ.out.be.cell i
 have hce := fun i => blk_cell HJ.out.eb_ i
 have hlb := HJ.out.be.lt
 have hle := blk_lt HJ.out.eb_
 go_enter Try.func29, Try.ntmps29
 go_upto_region 1 with (fail)
 refine start_ (n := 12) (S := (fun w' => (∀ i, w'.cell? ⟨b, i, none⟩ = (beA s.nw mb m3)[i]?) ∧ (∀ i, w'.cell? ⟨w.heap.size, i, none⟩ = (evA e)[i]?))) (ds := []) #[ff,ff,ff,ff,ff,ff,ff,ff,ff,ff,ff,ff] (by kernel_rfl) rfl rfl HJ.out.drew.cells (fun hHeld => ?_)
 refine with_tabW heR.tab1 heR.bits1 (fun HT_ HW_ => ?_)
 have HJ2 := Aside0.mk HJ.out.drew
 generalize World.drew _ = w2 at HJ2 hHeld ⊢
 clear hcb hce hlb hle
 have hlb := HJ2.out.be.lt
 have hle := blk_lt HJ2.out.eb_
 refine take_ (i := 0) (N := (some 7)) (v := ?_) (a' := ?_) #[tt,ff,ff,ff,ff,ff,ff,ff,ff,ff,ff,ff] rfl rfl (take_ofW HT_.out HW_.out (by kernel_rfl)) (fun _ _ _ h => h) (Or.inl ⟨by rfl, ?_⟩) hHeld ?_ ?_
 rotate_left
 ·rintro w' ⟨s0, s1⟩
  go_simp
  with_reducible rfl
 rotate_left
 ·simp only [Act.put, sQ0, sQ1, sQ2, i64_w]
  rfl
 refine one_ (i := 1) (N := (some 8)) #[tt,tt,ff,ff,ff,ff,ff,ff,ff,ff,ff,ff] rfl rfl (one_of HT_.out (by kernel_rfl)) (by decide) (fun K hK => ?_)
 refine call_ (f := 65) #[.agg (evA e)] (by rfl) rfl (by go_simp <;> rfl) ?_
 refine (CR.out w2).mono ?_
 rintro r w3 ⟨rfl, hb⟩
 refine ⟨_, rfl, ?_⟩
 have HJ3 := Aside0.mk (HJ2.out.step hb)
 clear hb
 refine hK.out _ _ HJ3.out.cells (fun hHeld => ?_)
 clear hK K
 refine norm_ (a' := ?_) ?_ ?_
 rotate_left
 ·show Act.put _ (some 8) _ = _
  simp only [Act.put, sQ0, sQ1, sQ2, i64_w]
  rfl
 refine pure_ (i := 2) (N := (some 9)) (v := ?_) (a' := ?_) #[tt,tt,tt,ff,ff,ff,ff,ff,ff,ff,ff,ff] rfl rfl (any_of HT_.out (by kernel_rfl)) (fun _ _ _ h => h) (Or.inl ⟨by rfl, ?_⟩) ?_ ?_
 rotate_left
 ·intro w'
  go_simp
  with_reducible rfl
 rotate_left
 ·simp only [Act.put, sQ0, sQ1, sQ2, i64_w]
  rfl
 refine pure_ (i := 3) (N := (some 10)) (v := ?_) (a' := ?_) #[tt,tt,tt,tt,ff,ff,ff,ff,ff,ff,ff,ff] rfl rfl (any_of HT_.out (by kernel_rfl)) (fun _ _ _ h => h) (Or.inl ⟨by rfl, ?_⟩) ?_ ?_
 rotate_left
 ·intro w'
  go_simp
  with_reducible rfl
 rotate_left
 ·simp only [Act.put, sQ0, sQ1, sQ2, i64_w]
  rfl
 refine pure_ (i := 4) (N := (some 11)) (v := ?_) (a' := ?_) #[tt,tt,tt,tt,tt,ff,ff,ff,ff,ff,ff,ff] rfl rfl (any_of HT_.out (by kernel_rfl)) (fun _ _ _ h => h) (Or.inl ⟨by rfl, ?_⟩) ?_ ?_
 rotate_left
 ·intro w'
  go_simp
  with_reducible rfl
 rotate_left
 ·simp only [Act.put, sQ0, sQ1, sQ2, i64_w]
  rfl
 refine pure_ (i := 6) (N := (some 13)) (v := ?_) (a' := ?_) #[tt,tt,tt,tt,tt,ff,tt,ff,ff,ff,ff,ff] rfl rfl (any_of HT_.out (by kernel_rfl)) (fun _ _ _ h => h) (Or.inl ⟨by rfl, ?_⟩) ?_ ?_
 rotate_left
 ·intro w'
  go_simp
  with_reducible rfl
 rotate_left
 ·simp only [Act.put, sQ0, sQ1, sQ2, i64_w]
  rfl
 refine pure_ (i := 7) (N := (some 14)) (v := ?_) (a' := ?_) #[tt,tt,tt,tt,tt,ff,tt,tt,ff,ff,ff,ff] rfl rfl (any_of HT_.out (by kernel_rfl)) (fun _ _ _ h => h) (Or.inl ⟨by rfl, ?_⟩) ?_ ?_
 rotate_left
 ·intro w'
  go_simp
  with_reducible rfl
 rotate_left
 ·simp only [Act.put, sQ0, sQ1, sQ2, i64_w]
  rfl
 refine pure_ (i := 8) (N := (some 15)) (v := ?_) (a' := ?_) #[tt,tt,tt,tt,tt,ff,tt,tt,tt,ff,ff,ff] rfl rfl (any_of HT_.out (by kernel_rfl)) (fun _ _ _ h => h) (Or.inl ⟨by rfl, ?_⟩) ?_ ?_
 rotate_left
 ·intro w'
  go_simp
  with_reducible rfl
 rotate_left
 ·simp only [Act.put, sQ0, sQ1, sQ2, i64_w]
  rfl
 refine take_ (i := 5) (N := (some 12)) (v := ?_) (a' := ?_) #[tt,tt,tt,tt,tt,tt,tt,tt,tt,ff,ff,ff] rfl rfl (take_ofW HT_.out HW_.out (by kernel_rfl)) (fun _ _ _ h => h) (Or.inl ⟨by rfl, ?_⟩) hHeld ?_ ?_
 rotate_left
 ·rintro w' ⟨s0, s1⟩
  go_simp
  with_reducible rfl
 rotate_left
 ·simp only [Act.put, sQ0, sQ1, sQ2, i64_w]
  rfl
 refine take_ (i := 9) (N := (some 16)) (v := ?_) (a' := ?_) #[tt,tt,tt,tt,tt,tt,tt,tt,tt,tt,ff,ff] rfl rfl (take_ofW HT_.out HW_.out (by kernel_rfl)) (fun _ _ _ h => h) (Or.inl ⟨by rfl, ?_⟩) hHeld ?_ ?_
 rotate_left
 ·rintro w' ⟨s0, s1⟩
  go_simp
  with_reducible rfl
 rotate_left
 ·simp only [Act.put, sQ0, sQ1, sQ2, i64_w]
  rfl
 refine pure_ (i := 10) (N := (some 17)) (v := ?_) (a' := ?_) #[tt,tt,tt,tt,tt,tt,tt,tt,tt,tt,tt,ff] rfl rfl (any_of HT_.out (by kernel_rfl)) (fun _ _ _ h => h) (Or.inl ⟨by rfl, ?_⟩) ?_ ?_
 rotate_left
 ·intro w'
  go_simp
  with_reducible rfl
 rotate_left
 ·simp only [Act.put, sQ0, sQ1, sQ2, i64_w]
  rfl
 refine pure_ (i := 11) (N := (some 18)) (v := ?_) (a' := ?_) #[tt,tt,tt,tt,tt,tt,tt,tt,tt,tt,tt,tt] rfl rfl (any_of HT_.out (by kernel_rfl)) (fun _ _ _ h => h) (Or.inl ⟨by rfl, ?_⟩) ?_ ?_
 rotate_left
 ·intro w'
  go_simp
  with_reducible rfl
 rotate_left
 ·simp only [Act.put, sQ0, sQ1, sQ2, i64_w]
  rfl
 refine done_ (done_of HT_.out (by kernel_rfl)) ?_
 clear hHeld
 clear hlb hle
 have hcb := fun i => HJ3.out.be.cell i
 have hce := fun i => blk_cell HJ3.out.eb_ i
 have hlb := HJ3.out.be.lt
 have hle := blk_lt HJ3.out.eb_
 go_upto_region 3 with (fail)
 refine gen_world' (fun W => Bj w W B b n mb m1 m2 m3 s pf e w.heap.size) (by exact HJ3.out) fun w4 Hw4 => ?_
 have HJw4 := Aside0.mk Hw4
 clear Hw4
 clear hcb hce hlb hle
 have hcb := fun i => HJw4.out.be.cell i
 have hce := fun i => blk_cell HJw4.out.eb_ i
 have hlb := HJw4.out.be.lt
 have hle := blk_lt HJw4.out.eb_
 have hl := fun q => HJw4.out.be.look HWK.out (w4.drewN q) rfl
 rw [pV_some HP.out] at hl
 simp only [Option.getD_some, Option.getD_none, Option.isSome_some, Option.isSome_none] at hl
 go_quiet (fail)
 clear hl
 go_upto_region 13 with (fail)
 refine gen_world' (fun W => Bj w W B b n mb m1 m2 m3 s pf e w.heap.size) (by exact HJw4.out.drewN _) fun w5 Hw5 => ?_
 have HJw5 := Aside0.mk Hw5
 clear Hw5
 clear hcb hce hlb hle
 have hcb := fun i => HJw5.out.be.cell i
 have hce := fun i => blk_cell HJw5.out.eb_ i
 have hlb := HJw5.out.be.lt
 have hle := blk_lt HJw5.out.eb_
 obtain ⟨iv, pp, hgb, hop⟩ : ∃ iv pp, (w5).heap[g]? = some (.cells (wkA iv k.beg pp) 119 (0, 0)) ∧ iv.op = k.op := by obtain ⟨g0, a, _, iv, pp, c, d, _⟩ := HJw5.out.be.busy HS.out; obtain rfl := Option.some.inj (a.symm.trans HP.out); exact ⟨iv, pp, c, d⟩
 have hcg := fun i => blk_cell hgb i
 have hlg := blk_lt hgb
 rw [← hop] at f0
 clear hgb hop
 go_quiet (fail)
 go_wp2
 go_ret
 exact BePost.of HF.out rfl ((HJw5.out.drewN _).be.up (by omega)) (HJw5.out.drewN _).bel
theorem hear_fire_early {w : World} {B b n mb m1 m2 m3 : Nat} {s : Be} {pf : Int → Option Nat} {k : Wk} (e : Ev) (hw : (Lit.int .i64 e.hn).wf = true ∧ (Lit.int .i64 e.hg).wf = true ∧ (Lit.int .i64 e.nn).wf = true ∧ (Lit.int .i64 e.ng).wf = true) (hwk : (Lit.int .i64 e.wk).wf = true) (hn : n + 4 ≤ 1000000) (hwl : ∀ x, (Lit.int .i64 ((s.m.lst x).getD 0)).wf = true) (h : BeIs w B b n s mb m1 m2 m3 pf) (hB : B ≤ w.heap.size) (hr : rightJ e = true) (hnw : ¬ s.nw ≤ e.wk) (hk : e.k = 4) (ho : k.op = 5) (ht : e.t < k.beg) (hs : s.wks e.wk = some k) :
  Calls Try.prog 29 #[pA b, .agg (evA e)] w (BePost w B b n mb m1 m2 m3 (hearF s e)) := by
 have hu0 := Try.underlying61
 have hu1 := Try.underlying34
 have hu2 := Try.underlying54
 have hu3 := Try.underlying119
 have HF := Aside0.mk (show hearF s e = (s, 6) by unfold hearF; rw [if_neg (fun q => by rcases q with q | q; (rw [hr] at q; cases q); omega)]; rw [if_neg (by omega), hs]; simp only; rw [if_neg (by omega), if_pos hk, if_pos (.inr ht)])
 have d0 : decide (e.wk ≥ s.nw) = false := decide_eq_false hnw
 have k1 : (e.k == 1) = false := beq_eq_false_iff_ne.2 (by omega)
 have k2 : (e.k == 2) = false := beq_eq_false_iff_ne.2 (by omega)
 have k3 : (e.k == 3) = false := beq_eq_false_iff_ne.2 (by omega)
 have k4 : (e.k == 4) = true := beq_iff_eq.2 (hk)
 have f0 : (k.op != 5) = false := bne_eq_false_iff_eq.2 (ho)
 have f1 : decide (e.t < k.beg) = true := decide_eq_true ht
 have CR := Aside0.mk (fun W => right_run e W)
 rw [hr] at CR
 have HW := Aside0.mk hw
 have HWK := Aside0.mk hwk
 have HN := Aside0.mk hn
 have HWL := Aside0.mk hwl
 have HJ := Aside0.mk (Bj.start h hB e)
 have HP0 := h.busy hs
 obtain ⟨g, hp, _⟩ := HP0
 have HP := Aside0.mk hp
 clear hp
 have HS := Aside0.mk hs
 clear hw hwk hn hwl h hB hr hnw hk ho ht hs
 have hcb := fun i => HJ.out.be.cell i
 have hce := fun i => blk_cell HJ.out.eb_ i
 have hlb := HJ.out.be.lt
 have hle := blk_lt HJ.out.eb_
 go_enter Try.func29, Try.ntmps29
 go_upto_region 1 with (fail)
 refine start_ (n := 12) (S := (fun w' => (∀ i, w'.cell? ⟨b, i, none⟩ = (beA s.nw mb m3)[i]?) ∧ (∀ i, w'.cell? ⟨w.heap.size, i, none⟩ = (evA e)[i]?))) (ds := []) #[ff,ff,ff,ff,ff,ff,ff,ff,ff,ff,ff,ff] (by kernel_rfl) rfl rfl HJ.out.drew.cells (fun hHeld => ?_)
 refine with_tabW heR.tab1 heR.bits1 (fun HT_ HW_ => ?_)
 have HJ2 := Aside0.mk HJ.out.drew
 generalize World.drew _ = w2 at HJ2 hHeld ⊢
 clear hcb hce hlb hle
 have hlb := HJ2.out.be.lt
 have hle := blk_lt HJ2.out.eb_
 refine take_ (i := 0) (N := (some 7)) (v := ?_) (a' := ?_) #[tt,ff,ff,ff,ff,ff,ff,ff,ff,ff,ff,ff] rfl rfl (take_ofW HT_.out HW_.out (by kernel_rfl)) (fun _ _ _ h => h) (Or.inl ⟨by rfl, ?_⟩) hHeld ?_ ?_
 rotate_left
 ·rintro w' ⟨s0, s1⟩
  go_simp
  with_reducible rfl
 rotate_left
 ·simp only [Act.put, sQ0, sQ1, sQ2, i64_w]
  rfl
 refine one_ (i := 1) (N := (some 8)) #[tt,tt,ff,ff,ff,ff,ff,ff,ff,ff,ff,ff] rfl rfl (one_of HT_.out (by kernel_rfl)) (by decide) (fun K hK => ?_)
 refine call_ (f := 65) #[.agg (evA e)] (by rfl) rfl (by go_simp <;> rfl) ?_
 refine (CR.out w2).mono ?_
 rintro r w3 ⟨rfl, hb⟩
 refine ⟨_, rfl, ?_⟩
 have HJ3 := Aside0.mk (HJ2.out.step hb)
 clear hb
 refine hK.out _ _ HJ3.out.cells (fun hHeld => ?_)
 clear hK K
 refine norm_ (a' := ?_) ?_ ?_
 rotate_left
 ·show Act.put _ (some 8) _ = _
  simp only [Act.put, sQ0, sQ1, sQ2, i64_w]
  rfl
 refine pure_ (i := 2) (N := (some 9)) (v := ?_) (a' := ?_) #[tt,tt,tt,ff,ff,ff,ff,ff,ff,ff,ff,ff] rfl rfl (any_of HT_.out (by kernel_rfl)) (fun _ _ _ h => h) (Or.inl ⟨by rfl, ?_⟩) ?_ ?_
 rotate_left
 ·intro w'
  go_simp
  with_reducible rfl
 rotate_left
 ·simp only [Act.put, sQ0, sQ1, sQ2, i64_w]
  rfl
 refine pure_ (i := 3) (N := (some 10)) (v := ?_) (a' := ?_) #[tt,tt,tt,tt,ff,ff,ff,ff,ff,ff,ff,ff] rfl rfl (any_of HT_.out (by kernel_rfl)) (fun _ _ _ h => h) (Or.inl ⟨by rfl, ?_⟩) ?_ ?_
 rotate_left
 ·intro w'
  go_simp
  with_reducible rfl
 rotate_left
 ·simp only [Act.put, sQ0, sQ1, sQ2, i64_w]
  rfl
 refine pure_ (i := 4) (N := (some 11)) (v := ?_) (a' := ?_) #[tt,tt,tt,tt,tt,ff,ff,ff,ff,ff,ff,ff] rfl rfl (any_of HT_.out (by kernel_rfl)) (fun _ _ _ h => h) (Or.inl ⟨by rfl, ?_⟩) ?_ ?_
 rotate_left
 ·intro w'
  go_simp
  with_reducible rfl
 rotate_left
 ·simp only [Act.put, sQ0, sQ1, sQ2, i64_w]
  rfl
 refine pure_ (i := 6) (N := (some 13)) (v := ?_) (a' := ?_) #[tt,tt,tt,tt,tt,ff,tt,ff,ff,ff,ff,ff] rfl rfl (any_of HT_.out (by kernel_rfl)) (fun _ _ _ h => h) (Or.inl ⟨by rfl, ?_⟩) ?_ ?_
 rotate_left
 ·intro w'
  go_simp
  with_reducible rfl
 rotate_left
 ·simp only [Act.put, sQ0, sQ1, sQ2, i64_w]
  rfl
 refine pure_ (i := 7) (N := (some 14)) (v := ?_) (a' := ?_) #[tt,tt,tt,tt,tt,ff,tt,tt,ff,ff,ff,ff] rfl rfl (any_of HT_.out (by kernel_rfl)) (fun _ _ _ h => h) (Or.inl ⟨by rfl, ?_⟩) ?_ ?_
 rotate_left
 ·intro w'
  go_simp
  with_reducible rfl
 rotate_left
 ·simp only [Act.put, sQ0, sQ1, sQ2, i64_w]
  rfl
 refine pure_ (i := 8) (N := (some 15)) (v := ?_) (a' := ?_) #[tt,tt,tt,tt,tt,ff,tt,tt,tt,ff,ff,ff] rfl rfl (any_of HT_.out (by kernel_rfl)) (fun _ _ _ h => h) (Or.inl ⟨by rfl, ?_⟩) ?_ ?_
 rotate_left
 ·intro w'
  go_simp
  with_reducible rfl
 rotate_left
 ·simp only [Act.put, sQ0, sQ1, sQ2, i64_w]
  rfl
 refine take_ (i := 5) (N := (some 12)) (v := ?_) (a' := ?_) #[tt,tt,tt,tt,tt,tt,tt,tt,tt,ff,ff,ff] rfl rfl (take_ofW HT_.out HW_.out (by kernel_rfl)) (fun _ _ _ h => h) (Or.inl ⟨by rfl, ?_⟩) hHeld ?_ ?_
 rotate_left
 ·rintro w' ⟨s0, s1⟩
  go_simp
  with_reducible rfl
 rotate_left
 ·simp only [Act.put, sQ0, sQ1, sQ2, i64_w]
  rfl
 refine take_ (i := 9) (N := (some 16)) (v := ?_) (a' := ?_) #[tt,tt,tt,tt,tt,tt,tt,tt,tt,tt,ff,ff] rfl rfl (take_ofW HT_.out HW_.out (by kernel_rfl)) (fun _ _ _ h => h) (Or.inl ⟨by rfl, ?_⟩) hHeld ?_ ?_
 rotate_left
 ·rintro w' ⟨s0, s1⟩
  go_simp
  with_reducible rfl
 rotate_left
 ·simp only [Act.put, sQ0, sQ1, sQ2, i64_w]
  rfl
 refine pure_ (i := 10) (N := (some 17)) (v := ?_) (a' := ?_) #[tt,tt,tt,tt,tt,tt,tt,tt,tt,tt,tt,ff] rfl rfl (any_of HT_.out (by kernel_rfl)) (fun _ _ _ h => h) (Or.inl ⟨by rfl, ?_⟩) ?_ ?_
 rotate_left
 ·intro w'
  go_simp
  with_reducible rfl
 rotate_left
 ·simp only [Act.put, sQ0, sQ1, sQ2, i64_w]
  rfl
 refine pure_ (i := 11) (N := (some 18)) (v := ?_) (a' := ?_) #[tt,tt,tt,tt,tt,tt,tt,tt,tt,tt,tt,tt] rfl rfl (any_of HT_.out (by kernel_rfl)) (fun _ _ _ h => h) (Or.inl ⟨by rfl, ?_⟩) ?_ ?_
 rotate_left
 ·intro w'
  go_simp
  with_reducible rfl
 rotate_left
 ·simp only [Act.put, sQ0, sQ1, sQ2, i64_w]
  rfl
 refine done_ (done_of HT_.out (by kernel_rfl)) ?_
 clear hHeld
 clear hlb hle
 have hcb := fun i => HJ3.out.be.cell i
 have hce := fun i => blk_cell HJ3.out.eb_ i
 have hlb := HJ3.out.be.lt
 have hle := blk_lt HJ3.out.eb_
 go_upto_region 3 with (fail)
 refine gen_world' (fun W => Bj w W B b n mb m1 m2 m3 s pf e w.heap.size) (by exact HJ3.out) fun w4 Hw4 => ?_
 have HJw4 := Aside0.mk Hw4
 clear Hw4
 clear hcb hce hlb hle
 have hcb := fun i => HJw4.out.be.cell i
 have hce := fun i => blk_cell HJw4.out.eb_ i
 have hlb := HJw4.out.be.lt
 have hle := blk_lt HJw4.out.eb_
 have hl := fun q => HJw4.out.be.look HWK.out (w4.drewN q) rfl
 rw [pV_some HP.out] at hl
 simp only [Option.getD_some, Option.getD_none, Option.isSome_some, Option.isSome_none] at hl
 go_quiet (fail)
 clear hl
 go_upto_region 13 with (fail)
 refine gen_world' (fun W => Bj w W B b n mb m1 m2 m3 s pf e w.heap.size) (by exact HJw4.out.drewN _) fun w5 Hw5 => ?_
 have HJw5 := Aside0.mk Hw5
 clear Hw5
 clear hcb hce hlb hle
 have hcb := fun i => HJw5.out.be.cell i
 have hce := fun i => blk_cell HJw5.out.eb_ i
 have hlb := HJw5.out.be.lt
 have hle := blk_lt HJw5.out.eb_
 obtain ⟨iv, pp, hgb, hop⟩ : ∃ iv pp, (w5).heap[g]? = some (.cells (wkA iv k.beg pp) 119 (0, 0)) ∧ iv.op = k.op := by obtain ⟨g0, a, _, iv, pp, c, d, _⟩ := HJw5.out.be.busy HS.out; obtain rfl := Option.some.inj (a.symm.trans HP.out); exact ⟨iv, pp, c, d⟩
 have hcg := fun i => blk_cell hgb i
 have hlg := blk_lt hgb
 rw [← hop] at f0
 clear hgb hop
 go_quiet (fail)
 go_wp2
 go_ret
 exact BePost.of HF.out rfl ((HJw5.out.drewN _).be.up (by omega)) (HJw5.out.drewN _).bel
theorem hear_fire {w : World} {B b n mb m1 m2 m3 : Nat} {s : Be} {pf : Int → Option Nat} {k : Wk} (e : Ev) (hw : (Lit.int .i64 e.hn).wf = true ∧ (Lit.int .i64 e.hg).wf = true ∧ (Lit.int .i64 e.nn).wf = true ∧ (Lit.int .i64 e.ng).wf = true) (hwk : (Lit.int .i64 e.wk).wf = true) (hn : n + 4 ≤ 1000000) (hwl : ∀ x, (Lit.int .i64 ((s.m.lst x).getD 0)).wf = true) (h : BeIs w B b n s mb m1 m2 m3 pf) (hB : B ≤ w.heap.size) (hr : rightJ e = true) (hnw : ¬ s.nw ≤ e.wk) (hk : e.k = 4) (ho : k.op = 5) (ht : ¬ e.t < k.beg) (hs : s.wks e.wk = some k) :
  Calls Try.prog 29 #[pA b, .agg (evA e)] w (BePost w B b n mb m1 m2 m3 (hearF s e)) := by
 have hu0 := Try.underlying61
 have hu1 := Try.underlying34
 have hu2 := Try.underlying54
 have hu3 := Try.underlying119
 have HF := Aside0.mk (show hearF s e = ({ s with m := (doF s.m e).1 }, (doF s.m e).2) by unfold hearF; rw [if_neg (fun q => by rcases q with q | q; (rw [hr] at q; cases q); omega)]; rw [if_neg (by omega), hs]; simp only; rw [if_neg (by omega), if_pos hk, if_neg (by omega)])
 have d0 : decide (e.wk ≥ s.nw) = false := decide_eq_false hnw
 have k1 : (e.k == 1) = false := beq_eq_false_iff_ne.2 (by omega)
 have k2 : (e.k == 2) = false := beq_eq_false_iff_ne.2 (by omega)
 have k3 : (e.k == 3) = false := beq_eq_false_iff_ne.2 (by omega)
 have k4 : (e.k == 4) = true := beq_iff_eq.2 (hk)
 have f0 : (k.op != 5) = false := bne_eq_false_iff_eq.2 (ho)
 have f1 : decide (e.t < k.beg) = false := decide_eq_false ht
 have CR := Aside0.mk (fun W => right_run e W)
 rw [hr] at CR
 have HW := Aside0.mk hw
 have HWK := Aside0.mk hwk
 have HN := Aside0.mk hn
 have HWL := Aside0.mk hwl
 have HJ := Aside0.mk (Bj.start h hB e)
 have HP0 := h.busy hs
 obtain ⟨g, hp, _⟩ := HP0
 have HP := Aside0.mk hp
 clear hp
 have HS := Aside0.mk hs
 clear hw hwk hn hwl h hB hr hnw hk ho ht hs
 have hcb := fun i => HJ.out.be.cell i
 have hce := fun i => blk_cell HJ.out.eb_ i
 have hlb := HJ.out.be.lt
 have hle := blk_lt HJ.out.eb_
 go_enter Try.func29, Try.ntmps29
 go_upto_region 1 with (fail)
 refine start_ (n := 12) (S := (fun w' => (∀ i, w'.cell? ⟨b, i, none⟩ = (beA s.nw mb m3)[i]?) ∧ (∀ i, w'.cell? ⟨w.heap.size, i, none⟩ = (evA e)[i]?))) (ds := []) #[ff,ff,ff,ff,ff,ff,ff,ff,ff,ff,ff,ff] (by kernel_rfl) rfl rfl HJ.out.drew.cells (fun hHeld => ?_)
 refine with_tabW heR.tab1 heR.bits1 (fun HT_ HW_ => ?_)
 have HJ2 := Aside0.mk HJ.out.drew
 generalize World.drew _ = w2 at HJ2 hHeld ⊢
 clear hcb hce hlb hle
 have hlb := HJ2.out.be.lt
 have hle := blk_lt HJ2.out.eb_
 refine take_ (i := 0) (N := (some 7)) (v := ?_) (a' := ?_) #[tt,ff,ff,ff,ff,ff,ff,ff,ff,ff,ff,ff] rfl rfl (take_ofW HT_.out HW_.out (by kernel_rfl)) (fun _ _ _ h => h) (Or.inl ⟨by rfl, ?_⟩) hHeld ?_ ?_
 rotate_left
 ·rintro w' ⟨s0, s1⟩
  go_simp
  with_reducible rfl
 rotate_left
 ·simp only [Act.put, sQ0, sQ1, sQ2, i64_w]
  rfl
 refine one_ (i := 1) (N := (some 8)) #[tt,tt,ff,ff,ff,ff,ff,ff,ff,ff,ff,ff] rfl rfl (one_of HT_.out (by kernel_rfl)) (by decide) (fun K hK => ?_)
 refine call_ (f := 65) #[.agg (evA e)] (by rfl) rfl (by go_simp <;> rfl) ?_
 refine (CR.out w2).mono ?_
 rintro r w3 ⟨rfl, hb⟩
 refine ⟨_, rfl, ?_⟩
 have HJ3 := Aside0.mk (HJ2.out.step hb)
 clear hb
 refine hK.out _ _ HJ3.out.cells (fun hHeld => ?_)
 clear hK K
 refine norm_ (a' := ?_) ?_ ?_
 rotate_left
 ·show Act.put _ (some 8) _ = _
  simp only [Act.put, sQ0, sQ1, sQ2, i64_w]
  rfl
 refine pure_ (i := 2) (N := (some 9)) (v := ?_) (a' := ?_) #[tt,tt,tt,ff,ff,ff,ff,ff,ff,ff,ff,ff] rfl rfl (any_of HT_.out (by kernel_rfl)) (fun _ _ _ h => h) (Or.inl ⟨by rfl, ?_⟩) ?_ ?_
 rotate_left
 ·intro w'
  go_simp
  with_reducible rfl
 rotate_left
 ·simp only [Act.put, sQ0, sQ1, sQ2, i64_w]
  rfl
 refine pure_ (i := 3) (N := (some 10)) (v := ?_) (a' := ?_) #[tt,tt,tt,tt,ff,ff,ff,ff,ff,ff,ff,ff] rfl rfl (any_of HT_.out (by kernel_rfl)) (fun _ _ _ h => h) (Or.inl ⟨by rfl, ?_⟩) ?_ ?_
 rotate_left
 ·intro w'
  go_simp
  with_reducible rfl
 rotate_left
 ·simp only [Act.put, sQ0, sQ1, sQ2, i64_w]
  rfl
 refine pure_ (i := 4) (N := (some 11)) (v := ?_) (a' := ?_) #[tt,tt,tt,tt,tt,ff,ff,ff,ff,ff,ff,ff] rfl rfl (any_of HT_.out (by kernel_rfl)) (fun _ _ _ h => h) (Or.inl ⟨by rfl, ?_⟩) ?_ ?_
 rotate_left
 ·intro w'
  go_simp
  with_reducible rfl
 rotate_left
 ·simp only [Act.put, sQ0, sQ1, sQ2, i64_w]
  rfl
 refine pure_ (i := 6) (N := (some 13)) (v := ?_) (a' := ?_) #[tt,tt,tt,tt,tt,ff,tt,ff,ff,ff,ff,ff] rfl rfl (any_of HT_.out (by kernel_rfl)) (fun _ _ _ h => h) (Or.inl ⟨by rfl, ?_⟩) ?_ ?_
 rotate_left
 ·intro w'
  go_simp
  with_reducible rfl
 rotate_left
 ·simp only [Act.put, sQ0, sQ1, sQ2, i64_w]
  rfl
 refine pure_ (i := 7) (N := (some 14)) (v := ?_) (a' := ?_) #[tt,tt,tt,tt,tt,ff,tt,tt,ff,ff,ff,ff] rfl rfl (any_of HT_.out (by kernel_rfl)) (fun _ _ _ h => h) (Or.inl ⟨by rfl, ?_⟩) ?_ ?_
 rotate_left
 ·intro w'
  go_simp
  with_reducible rfl
 rotate_left
 ·simp only [Act.put, sQ0, sQ1, sQ2, i64_w]
  rfl
 refine pure_ (i := 8) (N := (some 15)) (v := ?_) (a' := ?_) #[tt,tt,tt,tt,tt,ff,tt,tt,tt,ff,ff,ff] rfl rfl (any_of HT_.out (by kernel_rfl)) (fun _ _ _ h => h) (Or.inl ⟨by rfl, ?_⟩) ?_ ?_
 rotate_left
 ·intro w'
  go_simp
  with_reducible rfl
 rotate_left
 ·simp only [Act.put, sQ0, sQ1, sQ2, i64_w]
  rfl
 refine take_ (i := 5) (N := (some 12)) (v := ?_) (a' := ?_) #[tt,tt,tt,tt,tt,tt,tt,tt,tt,ff,ff,ff] rfl rfl (take_ofW HT_.out HW_.out (by kernel_rfl)) (fun _ _ _ h => h) (Or.inl ⟨by rfl, ?_⟩) hHeld ?_ ?_
 rotate_left
 ·rintro w' ⟨s0, s1⟩
  go_simp
  with_reducible rfl
 rotate_left
 ·simp only [Act.put, sQ0, sQ1, sQ2, i64_w]
  rfl
 refine take_ (i := 9) (N := (some 16)) (v := ?_) (a' := ?_) #[tt,tt,tt,tt,tt,tt,tt,tt,tt,tt,ff,ff] rfl rfl (take_ofW HT_.out HW_.out (by kernel_rfl)) (fun _ _ _ h => h) (Or.inl ⟨by rfl, ?_⟩) hHeld ?_ ?_
 rotate_left
 ·rintro w' ⟨s0, s1⟩
  go_simp
  with_reducible rfl
 rotate_left
 ·simp only [Act.put, sQ0, sQ1, sQ2, i64_w]
  rfl
 refine pure_ (i := 10) (N := (some 17)) (v := ?_) (a' := ?_) #[tt,tt,tt,tt,tt,tt,tt,tt,tt,tt,tt,ff] rfl rfl (any_of HT_.out (by kernel_rfl)) (fun _ _ _ h => h) (Or.inl ⟨by rfl, ?_⟩) ?_ ?_
 rotate_left
 ·intro w'
  go_simp
  with_reducible rfl
 rotate_left
 ·simp only [Act.put, sQ0, sQ1, sQ2, i64_w]
  rfl
 refine pure_ (i := 11) (N := (some 18)) (v := ?_) (a' := ?_) #[tt,tt,tt,tt,tt,tt,tt,tt,tt,tt,tt,tt] rfl rfl (any_of HT_.out (by kernel_rfl)) (fun _ _ _ h => h) (Or.inl ⟨by rfl, ?_⟩) ?_ ?_
 rotate_left
 ·intro w'
  go_simp
  with_reducible rfl
 rotate_left
 ·simp only [Act.put, sQ0, sQ1, sQ2, i64_w]
  rfl
 refine done_ (done_of HT_.out (by kernel_rfl)) ?_
 clear hHeld
 clear hlb hle
 have hcb := fun i => HJ3.out.be.cell i
 have hce := fun i => blk_cell HJ3.out.eb_ i
 have hlb := HJ3.out.be.lt
 have hle := blk_lt HJ3.out.eb_
 go_upto_region 3 with (fail)
 refine gen_world' (fun W => Bj w W B b n mb m1 m2 m3 s pf e w.heap.size) (by exact HJ3.out) fun w4 Hw4 => ?_
 have HJw4 := Aside0.mk Hw4
 clear Hw4
 clear hcb hce hlb hle
 have hcb := fun i => HJw4.out.be.cell i
 have hce := fun i => blk_cell HJw4.out.eb_ i
 have hlb := HJw4.out.be.lt
 have hle := blk_lt HJw4.out.eb_
 have hl := fun q => HJw4.out.be.look HWK.out (w4.drewN q) rfl
 rw [pV_some HP.out] at hl
 simp only [Option.getD_some, Option.getD_none, Option.isSome_some, Option.isSome_none] at hl
 go_quiet (fail)
 clear hl
 go_upto_region 13 with (fail)
 refine gen_world' (fun W => Bj w W B b n mb m1 m2 m3 s pf e w.heap.size) (by exact HJw4.out.drewN _) fun w5 Hw5 => ?_
 have HJw5 := Aside0.mk Hw5
 clear Hw5
 clear hcb hce hlb hle
 have hcb := fun i => HJw5.out.be.cell i
 have hce := fun i => blk_cell HJw5.out.eb_ i
 have hlb := HJw5.out.be.lt
 have hle := blk_lt HJw5.out.eb_
 obtain ⟨iv, pp, hgb, hop⟩ : ∃ iv pp, (w5).heap[g]? = some (.cells (wkA iv k.beg pp) 119 (0, 0)) ∧ iv.op = k.op := by obtain ⟨g0, a, _, iv, pp, c, d, _⟩ := HJw5.out.be.busy HS.out; obtain rfl := Option.some.inj (a.symm.trans HP.out); exact ⟨iv, pp, c, d⟩
 have hcg := fun i => blk_cell hgb i
 have hlg := blk_lt hgb
 rw [← hop] at f0
 clear hgb hop
 go_quiet (fail)
 clear hcg hlg
 go_upto_region 15 with (fail)
 refine gen_world' (fun W => Bj w W B b n mb m1 m2 m3 s pf e w.heap.size) (by exact HJw5.out.drewN _) fun w6 Hw6 => ?_
 have HJw6 := Aside0.mk Hw6
 clear Hw6
 clear hcb hce hlb hle
 have hcb := fun i => HJw6.out.be.cell i
 have hce := fun i => blk_cell HJw6.out.eb_ i
 have hlb := HJw6.out.be.lt
 have hle := blk_lt HJw6.out.eb_
 refine start_ (n := 7) (S := (fun w' => (∀ i, w'.cell? ⟨b, i, none⟩ = (beA s.nw mb m3)[i]?) ∧ (∀ i, w'.cell? ⟨w.heap.size, i, none⟩ = (evA e)[i]?))) (ds := [5]) #[ff,ff,ff,ff,ff,ff,ff] (by kernel_rfl) rfl rfl HJw6.out.drew.cells (fun hHeld => ?_)
 refine with_tabW heR.tab15 heR.bits15 (fun HT_ HW_ => ?_)
 have HJ7 := Aside0.mk HJw6.out.drew
 generalize w6.drew = w7 at HJ7 hHeld ⊢
 clear hcb hce hlb hle
 have hlb := HJ7.out.be.lt
 have hle := blk_lt HJ7.out.eb_
 refine pure_ (i := 0) (N := (some 77)) (v := ?_) (a' := ?_) #[tt,ff,ff,ff,ff,ff,ff] rfl rfl (any_of HT_.out (by kernel_rfl)) (fun _ _ _ h => h) (Or.inl ⟨by rfl, ?_⟩) ?_ ?_
 rotate_left
 ·intro w'
  go_simp
  with_reducible rfl
 rotate_left
 ·simp only [Act.put, sQ0, sQ1, sQ2, i64_w]
  rfl
 refine pure_ (i := 1) (N := (some 78)) (v := ?_) (a' := ?_) #[tt,tt,ff,ff,ff,ff,ff] rfl rfl (any_of HT_.out (by kernel_rfl)) (fun _ _ _ h => h) (Or.inl ⟨by rfl, ?_⟩) ?_ ?_
 rotate_left
 ·intro w'
  go_simp
  with_reducible rfl
 rotate_left
 ·simp only [Act.put, sQ0, sQ1, sQ2, i64_w]
  rfl
 refine pure_ (i := 2) (N := (some 79)) (v := ?_) (a' := ?_) #[tt,tt,tt,ff,ff,ff,ff] rfl rfl (any_of HT_.out (by kernel_rfl)) (fun _ _ _ h => h) (Or.inl ⟨by rfl, ?_⟩) ?_ ?_
 rotate_left
 ·intro w'
  go_simp
  with_reducible rfl
 rotate_left
 ·simp only [Act.put, sQ0, sQ1, sQ2, i64_w]
  rfl
 refine take_ (i := 3) (N := (some 80)) (v := ?_) (a' := ?_) #[tt,tt,tt,tt,ff,ff,ff] rfl rfl (take_ofW HT_.out HW_.out (by kernel_rfl)) (fun _ _ _ h => h) (Or.inl ⟨by rfl, ?_⟩) hHeld ?_ ?_
 rotate_left
 ·rintro w' ⟨s0, s1⟩
  go_simp
  with_reducible rfl
 rotate_left
 ·simp only [Act.put, sQ0, sQ1, sQ2, i64_w]
  rfl
 refine take_ (i := 4) (N := (some 81)) (v := ?_) (a' := ?_) #[tt,tt,tt,tt,tt,ff,ff] rfl rfl (take_ofW HT_.out HW_.out (by kernel_rfl)) (fun _ _ _ h => h) (Or.inl ⟨by rfl, ?_⟩) hHeld ?_ ?_
 rotate_left
 ·rintro w' ⟨s0, s1⟩
  go_simp
  with_reducible rfl
 rotate_left
 ·simp only [Act.put, sQ0, sQ1, sQ2, i64_w]
  rfl
 refine last_ (i := 5) (N := (some 82)) #[tt,tt,tt,tt,tt,tt,ff] rfl rfl (one_of HT_.out (by kernel_rfl)) (by decide) (fun K hK => ?_)
 refine call_ (f := 43) #[pA mb, .agg (evA e)] (by rfl) rfl (by go_simp <;> rfl) ?_
 refine (do_any e HW.out (by have := HN.out; omega) HWL.out HJ7.out.be.md).mono ?_
 rintro r w8 ⟨rfl, hm, hf⟩
 refine ⟨_, rfl, ?_⟩
 have HD := Aside0.mk (HJ7.out.model hm (by omega) hf)
 clear hm hf
 refine hK.out _ _ ?_
 clear hK K
 refine norm_ (a' := ?_) ?_ ?_
 rotate_left
 ·show Act.put _ (some 82) _ = _
  simp only [Act.put, sQ0, sQ1, sQ2, i64_w]
  rfl
 refine pure_ (i := 6) (N := (some 4)) (v := ?_) (a' := ?_) #[tt,tt,tt,tt,tt,tt,tt] rfl rfl (any_of HT_.out (by kernel_rfl)) (fun _ _ _ h => h) (Or.inl ⟨by rfl, ?_⟩) ?_ ?_
 rotate_left
 ·intro w'
  go_simp
  with_reducible rfl
 rotate_left
 ·simp only [Act.put, sQ0, sQ1, sQ2, i64_w]
  rfl
 refine done_ (done_of HT_.out (by kernel_rfl)) ?_
 clear hlb hle
 have hcb := fun i => HD.out.be.cell i
 have hce := fun i => blk_cell HD.out.eb_ i
 have hlb := HD.out.be.lt
 have hle := blk_lt HD.out.eb_
 go_wp2
 go_ret
 exact BePost.of HF.out rfl (HD.out.be.up (by omega)) HD.out.bel
theorem hear_other_op {w : World} {B b n mb m1 m2 m3 : Nat} {s : Be} {pf : Int → Option Nat} {k : Wk} (e : Ev) (hw : (Lit.int .i64 e.hn).wf = true ∧ (Lit.int .i64 e.hg).wf = true ∧ (Lit.int .i64 e.nn).wf = true ∧ (Lit.int .i64 e.ng).wf = true) (hwk : (Lit.int .i64 e.wk).wf = true) (hn : n + 4 ≤ 1000000) (hwl : ∀ x, (Lit.int .i64 ((s.m.lst x).getD 0)).wf = true) (h : BeIs w B b n s mb m1 m2 m3 pf) (hB : B ≤ w.heap.size) (hr : rightJ e = true) (hnw : ¬ s.nw ≤ e.wk) (hk : e.k = 3 ∨ e.k = 5) (ho : ¬ k.op = e.op) (hs : s.wks e.wk = some k) :
  Calls Try.prog 29 #[pA b, .agg (evA e)] w (BePost w B b n mb m1 m2 m3 (hearF s e)) := by
 have hu0 := Try.underlying61
 have hu1 := Try.underlying34
 have hu2 := Try.underlying54
 have hu3 := Try.underlying119
 have HF := Aside0.mk (show hearF s e = (s, 6) by unfold hearF; rw [if_neg (fun q => by rcases q with q | q; (rw [hr] at q; cases q); omega)]; rw [if_neg (by omega), hs]; simp only; rw [if_neg (by omega), if_neg (by omega), if_pos ho])
 have d0 : decide (e.wk ≥ s.nw) = false := decide_eq_false hnw
 have k1 : (e.k == 1) = false := beq_eq_false_iff_ne.2 (by omega)
 have k2 : (e.k == 2) = false := beq_eq_false_iff_ne.2 (by omega)
 have k4 : (e.k == 4) = false := beq_eq_false_iff_ne.2 (by omega)
 have f0 : (k.op != e.op) = true := bne_iff_ne.2 (ho)
 have CR := Aside0.mk (fun W => right_run e W)
 rw [hr] at CR
 have HW := Aside0.mk hw
 have HWK := Aside0.mk hwk
 have HN := Aside0.mk hn
 have HWL := Aside0.mk hwl
 have HJ := Aside0.mk (Bj.start h hB e)
 have HP0 := h.busy hs
 obtain ⟨g, hp, _⟩ := HP0
 have HP := Aside0.mk hp
 clear hp
 have HS := Aside0.mk hs
 clear hw hwk hn hwl h hB hr hnw hk ho hs
 have hcb := fun i => HJ.out.be.cell i
 have hce := fun i => blk_cell HJ.out.eb_ i
 have hlb := HJ.out.be.lt
 have hle := blk_lt HJ.out.eb_
 go_enter Try.func29, Try.ntmps29
 go_upto_region 1 with (fail)
 refine start_ (n := 12) (S := (fun w' => (∀ i, w'.cell? ⟨b, i, none⟩ = (beA s.nw mb m3)[i]?) ∧ (∀ i, w'.cell? ⟨w.heap.size, i, none⟩ = (evA e)[i]?))) (ds := []) #[ff,ff,ff,ff,ff,ff,ff,ff,ff,ff,ff,ff] (by kernel_rfl) rfl rfl HJ.out.drew.cells (fun hHeld => ?_)
 refine with_tabW heR.tab1 heR.bits1 (fun HT_ HW_ => ?_)
 have HJ2 := Aside0.mk HJ.out.drew
 generalize World.drew _ = w2 at HJ2 hHeld ⊢
 clear hcb hce hlb hle
 have hlb := HJ2.out.be.lt
 have hle := blk_lt HJ2.out.eb_
 refine take_ (i := 0) (N := (some 7)) (v := ?_) (a' := ?_) #[tt,ff,ff,ff,ff,ff,ff,ff,ff,ff,ff,ff] rfl rfl (take_ofW HT_.out HW_.out (by kernel_rfl)) (fun _ _ _ h => h) (Or.inl ⟨by rfl, ?_⟩) hHeld ?_ ?_
 rotate_left
 ·rintro w' ⟨s0, s1⟩
  go_simp
  with_reducible rfl
 rotate_left
 ·simp only [Act.put, sQ0, sQ1, sQ2, i64_w]
  rfl
 refine one_ (i := 1) (N := (some 8)) #[tt,tt,ff,ff,ff,ff,ff,ff,ff,ff,ff,ff] rfl rfl (one_of HT_.out (by kernel_rfl)) (by decide) (fun K hK => ?_)
 refine call_ (f := 65) #[.agg (evA e)] (by rfl) rfl (by go_simp <;> rfl) ?_
 refine (CR.out w2).mono ?_
 rintro r w3 ⟨rfl, hb⟩
 refine ⟨_, rfl, ?_⟩
 have HJ3 := Aside0.mk (HJ2.out.step hb)
 clear hb
 refine hK.out _ _ HJ3.out.cells (fun hHeld => ?_)
 clear hK K
 refine norm_ (a' := ?_) ?_ ?_
 rotate_left
 ·show Act.put _ (some 8) _ = _
  simp only [Act.put, sQ0, sQ1, sQ2, i64_w]
  rfl
 refine pure_ (i := 2) (N := (some 9)) (v := ?_) (a' := ?_) #[tt,tt,tt,ff,ff,ff,ff,ff,ff,ff,ff,ff] rfl rfl (any_of HT_.out (by kernel_rfl)) (fun _ _ _ h => h) (Or.inl ⟨by rfl, ?_⟩) ?_ ?_
 rotate_left
 ·intro w'
  go_simp
  with_reducible rfl
 rotate_left
 ·simp only [Act.put, sQ0, sQ1, sQ2, i64_w]
  rfl
 refine pure_ (i := 3) (N := (some 10)) (v := ?_) (a' := ?_) #[tt,tt,tt,tt,ff,ff,ff,ff,ff,ff,ff,ff] rfl rfl (any_of HT_.out (by kernel_rfl)) (fun _ _ _ h => h) (Or.inl ⟨by rfl, ?_⟩) ?_ ?_
 rotate_left
 ·intro w'
  go_simp
  with_reducible rfl
 rotate_left
 ·simp only [Act.put, sQ0, sQ1, sQ2, i64_w]
  rfl
 refine pure_ (i := 4) (N := (some 11)) (v := ?_) (a' := ?_) #[tt,tt,tt,tt,tt,ff,ff,ff,ff,ff,ff,ff] rfl rfl (any_of HT_.out (by kernel_rfl)) (fun _ _ _ h => h) (Or.inl ⟨by rfl, ?_⟩) ?_ ?_
 rotate_left
 ·intro w'
  go_simp
  with_reducible rfl
 rotate_left
 ·simp only [Act.put, sQ0, sQ1, sQ2, i64_w]
  rfl
 refine pure_ (i := 6) (N := (some 13)) (v := ?_) (a' := ?_) #[tt,tt,tt,tt,tt,ff,tt,ff,ff,ff,ff,ff] rfl rfl (any_of HT_.out (by kernel_rfl)) (fun _ _ _ h => h) (Or.inl ⟨by rfl, ?_⟩) ?_ ?_
 rotate_left
 ·intro w'
  go_simp
  with_reducible rfl
 rotate_left
 ·simp only [Act.put, sQ0, sQ1, sQ2, i64_w]
  rfl
 refine pure_ (i := 7) (N := (some 14)) (v := ?_) (a' := ?_) #[tt,tt,tt,tt,tt,ff,tt,tt,ff,ff,ff,ff] rfl rfl (any_of HT_.out (by kernel_rfl)) (fun _ _ _ h => h) (Or.inl ⟨by rfl, ?_⟩) ?_ ?_
 rotate_left
 ·intro w'
  go_simp
  with_reducible rfl
 rotate_left
 ·simp only [Act.put, sQ0, sQ1, sQ2, i64_w]
  rfl
 refine pure_ (i := 8) (N := (some 15)) (v := ?_) (a' := ?_) #[tt,tt,tt,tt,tt,ff,tt,tt,tt,ff,ff,ff] rfl rfl (any_of HT_.out (by kernel_rfl)) (fun _ _ _ h => h) (Or.inl ⟨by rfl, ?_⟩) ?_ ?_
 rotate_left
 ·intro w'
  go_simp
  with_reducible rfl
 rotate_left
 ·simp only [Act.put, sQ0, sQ1, sQ2, i64_w]
  rfl
 refine take_ (i := 5) (N := (some 12)) (v := ?_) (a' := ?_) #[tt,tt,tt,tt,tt,tt,tt,tt,tt,ff,ff,ff] rfl rfl (take_ofW HT_.out HW_.out (by kernel_rfl)) (fun _ _ _ h => h) (Or.inl ⟨by rfl, ?_⟩) hHeld ?_ ?_
 rotate_left
 ·rintro w' ⟨s0, s1⟩
  go_simp
  with_reducible rfl
 rotate_left
 ·simp only [Act.put, sQ0, sQ1, sQ2, i64_w]
  rfl
 refine take_ (i := 9) (N := (some 16)) (v := ?_) (a' := ?_) #[tt,tt,tt,tt,tt,tt,tt,tt,tt,tt,ff,ff] rfl rfl (take_ofW HT_.out HW_.out (by kernel_rfl)) (fun _ _ _ h => h) (Or.inl ⟨by rfl, ?_⟩) hHeld ?_ ?_
 rotate_left
 ·rintro w' ⟨s0, s1⟩
  go_simp
  with_reducible rfl
 rotate_left
 ·simp only [Act.put, sQ0, sQ1, sQ2, i64_w]
  rfl
 refine pure_ (i := 10) (N := (some 17)) (v := ?_) (a' := ?_) #[tt,tt,tt,tt,tt,tt,tt,tt,tt,tt,tt,ff] rfl rfl (any_of HT_.out (by kernel_rfl)) (fun _ _ _ h => h) (Or.inl ⟨by rfl, ?_⟩) ?_ ?_
 rotate_left
 ·intro w'
  go_simp
  with_reducible rfl
 rotate_left
 ·simp only [Act.put, sQ0, sQ1, sQ2, i64_w]
  rfl
 refine pure_ (i := 11) (N := (some 18)) (v := ?_) (a' := ?_) #[tt,tt,tt,tt,tt,tt,tt,tt,tt,tt,tt,tt] rfl rfl (any_of HT_.out (by kernel_rfl)) (fun _ _ _ h => h) (Or.inl ⟨by rfl, ?_⟩) ?_ ?_
 rotate_left
 ·intro w'
  go_simp
  with_reducible rfl
 rotate_left
 ·simp only [Act.put, sQ0, sQ1, sQ2, i64_w]
  rfl
 refine done_ (done_of HT_.out (by kernel_rfl)) ?_
 clear hHeld
 clear hlb hle
 have hcb := fun i => HJ3.out.be.cell i
 have hce := fun i => blk_cell HJ3.out.eb_ i
 have hlb := HJ3.out.be.lt
 have hle := blk_lt HJ3.out.eb_
 go_upto_region 3 with (fail)
 refine gen_world' (fun W => Bj w W B b n mb m1 m2 m3 s pf e w.heap.size) (by exact HJ3.out) fun w4 Hw4 => ?_
 have HJw4 := Aside0.mk Hw4
 clear Hw4
 clear hcb hce hlb hle
 have hcb := fun i => HJw4.out.be.cell i
 have hce := fun i => blk_cell HJw4.out.eb_ i
 have hlb := HJw4.out.be.lt
 have hle := blk_lt HJw4.out.eb_
 have hl := fun q => HJw4.out.be.look HWK.out (w4.drewN q) rfl
 rw [pV_some HP.out] at hl
 simp only [Option.getD_some, Option.getD_none, Option.isSome_some, Option.isSome_none] at hl
 go_quiet (fail)
 clear hl
 go_upto_region 16 with (fail)
 refine gen_world' (fun W => Bj w W B b n mb m1 m2 m3 s pf e w.heap.size) (by exact HJw4.out.drewN _) fun w5 Hw5 => ?_
 have HJw5 := Aside0.mk Hw5
 clear Hw5
 clear hcb hce hlb hle
 have hcb := fun i => HJw5.out.be.cell i
 have hce := fun i => blk_cell HJw5.out.eb_ i
 have hlb := HJw5.out.be.lt
 have hle := blk_lt HJw5.out.eb_
 obtain ⟨iv, pp, hgb, hop⟩ : ∃ iv pp, (w5).heap[g]? = some (.cells (wkA iv k.beg pp) 119 (0, 0)) ∧ iv.op = k.op := by obtain ⟨g0, a, _, iv, pp, c, d, _⟩ := HJw5.out.be.busy HS.out; obtain rfl := Option.some.inj (a.symm.trans HP.out); exact ⟨iv, pp, c, d⟩
 have hcg := fun i => blk_cell hgb i
 have hlg := blk_lt hgb
 rw [← hop] at f0
 clear hgb hop
 go_quiet (fail)
 go_wp2
 go_ret
 exact BePost.of HF.out rfl ((HJw5.out.drewN _).be.up (by omega)) (HJw5.out.drewN _).bel
theorem hear_point {w : World} {B b n mb m1 m2 m3 : Nat} {s : Be} {pf : Int → Option Nat} {k : Wk} (e : Ev) (hw : (Lit.int .i64 e.hn).wf = true ∧ (Lit.int .i64 e.hg).wf = true ∧ (Lit.int .i64 e.nn).wf = true ∧ (Lit.int .i64 e.ng).wf = true) (hwk : (Lit.int .i64 e.wk).wf = true) (hn : n + 4 ≤ 1000000) (hwl : ∀ x, (Lit.int .i64 ((s.m.lst x).getD 0)).wf = true) (h : BeIs w B b n s mb m1 m2 m3 pf) (hB : B ≤ w.heap.size) (hr : rightJ e = true) (hnw : ¬ s.nw ≤ e.wk) (hk : e.k = 3) (ho : k.op = e.op) (hs : s.wks e.wk = some k) :
  Calls Try.prog 29 #[pA b, .agg (evA e)] w (BePost w B b n mb m1 m2 m3 (hearF s e)) := by
 have hu0 := Try.underlying61
 have hu1 := Try.underlying34
 have hu2 := Try.underlying54
 have hu3 := Try.underlying119
 have HF := Aside0.mk (show hearF s e = pointB s k e by unfold hearF; rw [if_neg (fun q => by rcases q with q | q; (rw [hr] at q; cases q); omega)]; rw [if_neg (by omega), hs]; simp only; rw [if_neg (by omega), if_neg (by omega), if_neg (by omega), if_pos hk])
 have d0 : decide (e.wk ≥ s.nw) = false := decide_eq_false hnw
 have k1 : (e.k == 1) = false := beq_eq_false_iff_ne.2 (by omega)
 have k2 : (e.k == 2) = false := beq_eq_false_iff_ne.2 (by omega)
 have k3 : (e.k == 3) = true := beq_iff_eq.2 (hk)
 have k4 : (e.k == 4) = false := beq_eq_false_iff_ne.2 (by omega)
 have f0 : (k.op != e.op) = false := bne_eq_false_iff_eq.2 (ho)
 have CR := Aside0.mk (fun W => right_run e W)
 rw [hr] at CR
 have HW := Aside0.mk hw
 have HWK := Aside0.mk hwk
 have HN := Aside0.mk hn
 have HWL := Aside0.mk hwl
 have HJ := Aside0.mk (Bj.start h hB e)
 have HP0 := h.busy hs
 obtain ⟨g, hp, _⟩ := HP0
 have HP := Aside0.mk hp
 clear hp
 have HS := Aside0.mk hs
 clear hw hwk hn hwl h hB hr hnw hk ho hs
 have hcb := fun i => HJ.out.be.cell i
 have hce := fun i => blk_cell HJ.out.eb_ i
 have hlb := HJ.out.be.lt
 have hle := blk_lt HJ.out.eb_
 go_enter Try.func29, Try.ntmps29
 go_upto_region 1 with (fail)
 refine start_ (n := 12) (S := (fun w' => (∀ i, w'.cell? ⟨b, i, none⟩ = (beA s.nw mb m3)[i]?) ∧ (∀ i, w'.cell? ⟨w.heap.size, i, none⟩ = (evA e)[i]?))) (ds := []) #[ff,ff,ff,ff,ff,ff,ff,ff,ff,ff,ff,ff] (by kernel_rfl) rfl rfl HJ.out.drew.cells (fun hHeld => ?_)
 refine with_tabW heR.tab1 heR.bits1 (fun HT_ HW_ => ?_)
 have HJ2 := Aside0.mk HJ.out.drew
 generalize World.drew _ = w2 at HJ2 hHeld ⊢
 clear hcb hce hlb hle
 have hlb := HJ2.out.be.lt
 have hle := blk_lt HJ2.out.eb_
 refine take_ (i := 0) (N := (some 7)) (v := ?_) (a' := ?_) #[tt,ff,ff,ff,ff,ff,ff,ff,ff,ff,ff,ff] rfl rfl (take_ofW HT_.out HW_.out (by kernel_rfl)) (fun _ _ _ h => h) (Or.inl ⟨by rfl, ?_⟩) hHeld ?_ ?_
 rotate_left
 ·rintro w' ⟨s0, s1⟩
  go_simp
  with_reducible rfl
 rotate_left
 ·simp only [Act.put, sQ0, sQ1, sQ2, i64_w]
  rfl
 refine one_ (i := 1) (N := (some 8)) #[tt,tt,ff,ff,ff,ff,ff,ff,ff,ff,ff,ff] rfl rfl (one_of HT_.out (by kernel_rfl)) (by decide) (fun K hK => ?_)
 refine call_ (f := 65) #[.agg (evA e)] (by rfl) rfl (by go_simp <;> rfl) ?_
 refine (CR.out w2).mono ?_
 rintro r w3 ⟨rfl, hb⟩
 refine ⟨_, rfl, ?_⟩
 have HJ3 := Aside0.mk (HJ2.out.step hb)
 clear hb
 refine hK.out _ _ HJ3.out.cells (fun hHeld => ?_)
 clear hK K
 refine norm_ (a' := ?_) ?_ ?_
 rotate_left
 ·show Act.put _ (some 8) _ = _
  simp only [Act.put, sQ0, sQ1, sQ2, i64_w]
  rfl
 refine pure_ (i := 2) (N := (some 9)) (v := ?_) (a' := ?_) #[tt,tt,tt,ff,ff,ff,ff,ff,ff,ff,ff,ff] rfl rfl (any_of HT_.out (by kernel_rfl)) (fun _ _ _ h => h) (Or.inl ⟨by rfl, ?_⟩) ?_ ?_
 rotate_left
 ·intro w'
  go_simp
  with_reducible rfl
 rotate_left
 ·simp only [Act.put, sQ0, sQ1, sQ2, i64_w]
  rfl
 refine pure_ (i := 3) (N := (some 10)) (v := ?_) (a' := ?_) #[tt,tt,tt,tt,ff,ff,ff,ff,ff,ff,ff,ff] rfl rfl (any_of HT_.out (by kernel_rfl)) (fun _ _ _ h => h) (Or.inl ⟨by rfl, ?_⟩) ?_ ?_
 rotate_left
 ·intro w'
  go_simp
  with_reducible rfl
 rotate_left
 ·simp only [Act.put, sQ0, sQ1, sQ2, i64_w]
  rfl
 refine pure_ (i := 4) (N := (some 11)) (v := ?_) (a' := ?_) #[tt,tt,tt,tt,tt,ff,ff,ff,ff,ff,ff,ff] rfl rfl (any_of HT_.out (by kernel_rfl)) (fun _ _ _ h => h) (Or.inl ⟨by rfl, ?_⟩) ?_ ?_
 rotate_left
 ·intro w'
  go_simp
  with_reducible rfl
 rotate_left
 ·simp only [Act.put, sQ0, sQ1, sQ2, i64_w]
  rfl
 refine pure_ (i := 6) (N := (some 13)) (v := ?_) (a' := ?_) #[tt,tt,tt,tt,tt,ff,tt,ff,ff,ff,ff,ff] rfl rfl (any_of HT_.out (by kernel_rfl)) (fun _ _ _ h => h) (Or.inl ⟨by rfl, ?_⟩) ?_ ?_
 rotate_left
 ·intro w'
  go_simp
  with_reducible rfl
 rotate_left
 ·simp only [Act.put, sQ0, sQ1, sQ2, i64_w]
  rfl
 refine pure_ (i := 7) (N := (some 14)) (v := ?_) (a' := ?_) #[tt,tt,tt,tt,tt,ff,tt,tt,ff,ff,ff,ff] rfl rfl (any_of HT_.out (by kernel_rfl)) (fun _ _ _ h => h) (Or.inl ⟨by rfl, ?_⟩) ?_ ?_
 rotate_left
 ·intro w'
  go_simp
  with_reducible rfl
 rotate_left
 ·simp only [Act.put, sQ0, sQ1, sQ2, i64_w]
  rfl
 refine pure_ (i := 8) (N := (some 15)) (v := ?_) (a' := ?_) #[tt,tt,tt,tt,tt,ff,tt,tt,tt,ff,ff,ff] rfl rfl (any_of HT_.out (by kernel_rfl)) (fun _ _ _ h => h) (Or.inl ⟨by rfl, ?_⟩) ?_ ?_
 rotate_left
 ·intro w'
  go_simp
  with_reducible rfl
 rotate_left
 ·simp only [Act.put, sQ0, sQ1, sQ2, i64_w]
  rfl
 refine take_ (i := 5) (N := (some 12)) (v := ?_) (a' := ?_) #[tt,tt,tt,tt,tt,tt,tt,tt,tt,ff,ff,ff] rfl rfl (take_ofW HT_.out HW_.out (by kernel_rfl)) (fun _ _ _ h => h) (Or.inl ⟨by rfl, ?_⟩) hHeld ?_ ?_
 rotate_left
 ·rintro w' ⟨s0, s1⟩
  go_simp
  with_reducible rfl
 rotate_left
 ·simp only [Act.put, sQ0, sQ1, sQ2, i64_w]
  rfl
 refine take_ (i := 9) (N := (some 16)) (v := ?_) (a' := ?_) #[tt,tt,tt,tt,tt,tt,tt,tt,tt,tt,ff,ff] rfl rfl (take_ofW HT_.out HW_.out (by kernel_rfl)) (fun _ _ _ h => h) (Or.inl ⟨by rfl, ?_⟩) hHeld ?_ ?_
 rotate_left
 ·rintro w' ⟨s0, s1⟩
  go_simp
  with_reducible rfl
 rotate_left
 ·simp only [Act.put, sQ0, sQ1, sQ2, i64_w]
  rfl
 refine pure_ (i := 10) (N := (some 17)) (v := ?_) (a' := ?_) #[tt,tt,tt,tt,tt,tt,tt,tt,tt,tt,tt,ff] rfl rfl (any_of HT_.out (by kernel_rfl)) (fun _ _ _ h => h) (Or.inl ⟨by rfl, ?_⟩) ?_ ?_
 rotate_left
 ·intro w'
  go_simp
  with_reducible rfl
 rotate_left
 ·simp only [Act.put, sQ0, sQ1, sQ2, i64_w]
  rfl
 refine pure_ (i := 11) (N := (some 18)) (v := ?_) (a' := ?_) #[tt,tt,tt,tt,tt,tt,tt,tt,tt,tt,tt,tt] rfl rfl (any_of HT_.out (by kernel_rfl)) (fun _ _ _ h => h) (Or.inl ⟨by rfl, ?_⟩) ?_ ?_
 rotate_left
 ·intro w'
  go_simp
  with_reducible rfl
 rotate_left
 ·simp only [Act.put, sQ0, sQ1, sQ2, i64_w]
  rfl
 refine done_ (done_of HT_.out (by kernel_rfl)) ?_
 clear hHeld
 clear hlb hle
 have hcb := fun i => HJ3.out.be.cell i
 have hce := fun i => blk_cell HJ3.out.eb_ i
 have hlb := HJ3.out.be.lt
 have hle := blk_lt HJ3.out.eb_
 go_upto_region 3 with (fail)
 refine gen_world' (fun W => Bj w W B b n mb m1 m2 m3 s pf e w.heap.size) (by exact HJ3.out) fun w4 Hw4 => ?_
 have HJw4 := Aside0.mk Hw4
 clear Hw4
 clear hcb hce hlb hle
 have hcb := fun i => HJw4.out.be.cell i
 have hce := fun i => blk_cell HJw4.out.eb_ i
 have hlb := HJw4.out.be.lt
 have hle := blk_lt HJw4.out.eb_
 have hl := fun q => HJw4.out.be.look HWK.out (w4.drewN q) rfl
 rw [pV_some HP.out] at hl
 simp only [Option.getD_some, Option.getD_none, Option.isSome_some, Option.isSome_none] at hl
 go_quiet (fail)
 clear hl
 go_upto_region 16 with (fail)
 refine gen_world' (fun W => Bj w W B b n mb m1 m2 m3 s pf e w.heap.size) (by exact HJw4.out.drewN _) fun w5 Hw5 => ?_
 have HJw5 := Aside0.mk Hw5
 clear Hw5
 clear hcb hce hlb hle
 have hcb := fun i => HJw5.out.be.cell i
 have hce := fun i => blk_cell HJw5.out.eb_ i
 have hlb := HJw5.out.be.lt
 have hle := blk_lt HJw5.out.eb_
 obtain ⟨iv, pp, hgb, hop⟩ : ∃ iv pp, (w5).heap[g]? = some (.cells (wkA iv k.beg pp) 119 (0, 0)) ∧ iv.op = k.op := by obtain ⟨g0, a, _, iv, pp, c, d, _⟩ := HJw5.out.be.busy HS.out; obtain rfl := Option.some.inj (a.symm.trans HP.out); exact ⟨iv, pp, c, d⟩
 have hcg := fun i => blk_cell hgb i
 have hlg := blk_lt hgb
 rw [← hop] at f0
 clear hgb hop
 go_quiet (fail)
 clear hcg hlg
 have CP : Aside0 (∀ W, Bj w W B b n mb m1 m2 m3 s pf e w.heap.size → Calls Try.prog 66 #[pA b, pA g, .agg (evA e)] W (BePost W B b n mb m1 m2 m3 (pointB s k e))) := ⟨fun W hW => bpoint_any e HW.out (by have := HN.out; omega) HWL.out hW.be (by have := hW.bel.size; have := hW.hB; omega) HS.out HP.out⟩
 go_wp2_with (go_at_call 66; (with_reducible refine (CP.out _ (by exact HJw5.out.drewN _)).mono ?_); rintro r w7 ⟨rfl, hm, hf⟩; have HD := Aside0.mk (And.intro hm ((HJw5.out.drewN _).bel.trans hf)); clear hm hf)
 go_ret
 obtain ⟨pf2, hpf⟩ := HD.out.1
 exact BePost.of HF.out rfl hpf HD.out.2
theorem hear_back_no {w : World} {B b n mb m1 m2 m3 : Nat} {s : Be} {pf : Int → Option Nat} {k : Wk} (e : Ev) (hw : (Lit.int .i64 e.hn).wf = true ∧ (Lit.int .i64 e.hg).wf = true ∧ (Lit.int .i64 e.nn).wf = true ∧ (Lit.int .i64 e.ng).wf = true) (hwk : (Lit.int .i64 e.wk).wf = true) (hn : n + 4 ≤ 1000000) (hwl : ∀ x, (Lit.int .i64 ((s.m.lst x).getD 0)).wf = true) (h : BeIs w B b n s mb m1 m2 m3 pf) (hB : B ≤ w.heap.size) (hr : rightJ e = true) (hnw : ¬ s.nw ≤ e.wk) (hk : e.k = 5) (ho : k.op = e.op) (h4 : e.op ≤ 4) (ha : answersB k e = false) (hs : s.wks e.wk = some k) :
  Calls Try.prog 29 #[pA b, .agg (evA e)] w (BePost w B b n mb m1 m2 m3 (hearF s e)) := by
 have hu0 := Try.underlying61
 have hu1 := Try.underlying34
 have hu2 := Try.underlying54
 have hu3 := Try.underlying119
 have HF := Aside0.mk (show hearF s e = (s, 6) by unfold hearF; rw [if_neg (fun q => by rcases q with q | q; (rw [hr] at q; cases q); omega)]; rw [if_neg (by omega), hs]; simp only; rw [if_neg (by omega), if_neg (by omega), if_neg (by omega), if_neg (by omega), if_pos ⟨h4, ha⟩])
 have d0 : decide (e.wk ≥ s.nw) = false := decide_eq_false hnw
 have k1 : (e.k == 1) = false := beq_eq_false_iff_ne.2 (by omega)
 have k2 : (e.k == 2) = false := beq_eq_false_iff_ne.2 (by omega)
 have k3 : (e.k == 3) = false := beq_eq_false_iff_ne.2 (by omega)
 have k4 : (e.k == 4) = false := beq_eq_false_iff_ne.2 (by omega)
 have f0 : (k.op != e.op) = false := bne_eq_false_iff_eq.2 (ho)
 have f4 : decide (e.op ≤ 4) = true := decide_eq_true h4
 have f5 := ha
 have CR := Aside0.mk (fun W => right_run e W)
 rw [hr] at CR
 have HW := Aside0.mk hw
 have HWK := Aside0.mk hwk
 have HN := Aside0.mk hn
 have HWL := Aside0.mk hwl
 have HJ := Aside0.mk (Bj.start h hB e)
 have HP0 := h.busy hs
 obtain ⟨g, hp, _⟩ := HP0
 have HP := Aside0.mk hp
 clear hp
 have HS := Aside0.mk hs
 clear hw hwk hn hwl h hB hr hnw hk ho h4 ha hs
 have hcb := fun i => HJ.out.be.cell i
 have hce := fun i => blk_cell HJ.out.eb_ i
 have hlb := HJ.out.be.lt
 have hle := blk_lt HJ.out.eb_
 go_enter Try.func29, Try.ntmps29
 go_upto_region 1 with (fail)
 refine start_ (n := 12) (S := (fun w' => (∀ i, w'.cell? ⟨b, i, none⟩ = (beA s.nw mb m3)[i]?) ∧ (∀ i, w'.cell? ⟨w.heap.size, i, none⟩ = (evA e)[i]?))) (ds := []) #[ff,ff,ff,ff,ff,ff,ff,ff,ff,ff,ff,ff] (by kernel_rfl) rfl rfl HJ.out.drew.cells (fun hHeld => ?_)
 refine with_tabW heR.tab1 heR.bits1 (fun HT_ HW_ => ?_)
 have HJ2 := Aside0.mk HJ.out.drew
 generalize World.drew _ = w2 at HJ2 hHeld ⊢
 clear hcb hce hlb hle
 have hlb := HJ2.out.be.lt
 have hle := blk_lt HJ2.out.eb_
 refine take_ (i := 0) (N := (some 7)) (v := ?_) (a' := ?_) #[tt,ff,ff,ff,ff,ff,ff,ff,ff,ff,ff,ff] rfl rfl (take_ofW HT_.out HW_.out (by kernel_rfl)) (fun _ _ _ h => h) (Or.inl ⟨by rfl, ?_⟩) hHeld ?_ ?_
 rotate_left
 ·rintro w' ⟨s0, s1⟩
  go_simp
  with_reducible rfl
 rotate_left
 ·simp only [Act.put, sQ0, sQ1, sQ2, i64_w]
  rfl
 refine one_ (i := 1) (N := (some 8)) #[tt,tt,ff,ff,ff,ff,ff,ff,ff,ff,ff,ff] rfl rfl (one_of HT_.out (by kernel_rfl)) (by decide) (fun K hK => ?_)
 refine call_ (f := 65) #[.agg (evA e)] (by rfl) rfl (by go_simp <;> rfl) ?_
 refine (CR.out w2).mono ?_
 rintro r w3 ⟨rfl, hb⟩
 refine ⟨_, rfl, ?_⟩
 have HJ3 := Aside0.mk (HJ2.out.step hb)
 clear hb
 refine hK.out _ _ HJ3.out.cells (fun hHeld => ?_)
 clear hK K
 refine norm_ (a' := ?_) ?_ ?_
 rotate_left
 ·show Act.put _ (some 8) _ = _
  simp only [Act.put, sQ0, sQ1, sQ2, i64_w]
  rfl
 refine pure_ (i := 2) (N := (some 9)) (v := ?_) (a' := ?_) #[tt,tt,tt,ff,ff,ff,ff,ff,ff,ff,ff,ff] rfl rfl (any_of HT_.out (by kernel_rfl)) (fun _ _ _ h => h) (Or.inl ⟨by rfl, ?_⟩) ?_ ?_
 rotate_left
 ·intro w'
  go_simp
  with_reducible rfl
 rotate_left
 ·simp only [Act.put, sQ0, sQ1, sQ2, i64_w]
  rfl
 refine pure_ (i := 3) (N := (some 10)) (v := ?_) (a' := ?_) #[tt,tt,tt,tt,ff,ff,ff,ff,ff,ff,ff,ff] rfl rfl (any_of HT_.out (by kernel_rfl)) (fun _ _ _ h => h) (Or.inl ⟨by rfl, ?_⟩) ?_ ?_
 rotate_left
 ·intro w'
  go_simp
  with_reducible rfl
 rotate_left
 ·simp only [Act.put, sQ0, sQ1, sQ2, i64_w]
  rfl
 refine pure_ (i := 4) (N := (some 11)) (v := ?_) (a' := ?_) #[tt,tt,tt,tt,tt,ff,ff,ff,ff,ff,ff,ff] rfl rfl (any_of HT_.out (by kernel_rfl)) (fun _ _ _ h => h) (Or.inl ⟨by rfl, ?_⟩) ?_ ?_
 rotate_left
 ·intro w'
  go_simp
  with_reducible rfl
 rotate_left
 ·simp only [Act.put, sQ0, sQ1, sQ2, i64_w]
  rfl
 refine pure_ (i := 6) (N := (some 13)) (v := ?_) (a' := ?_) #[tt,tt,tt,tt,tt,ff,tt,ff,ff,ff,ff,ff] rfl rfl (any_of HT_.out (by kernel_rfl)) (fun _ _ _ h => h) (Or.inl ⟨by rfl, ?_⟩) ?_ ?_
 rotate_left
 ·intro w'
  go_simp
  with_reducible rfl
 rotate_left
 ·simp only [Act.put, sQ0, sQ1, sQ2, i64_w]
  rfl
 refine pure_ (i := 7) (N := (some 14)) (v := ?_) (a' := ?_) #[tt,tt,tt,tt,tt,ff,tt,tt,ff,ff,ff,ff] rfl rfl (any_of HT_.out (by kernel_rfl)) (fun _ _ _ h => h) (Or.inl ⟨by rfl, ?_⟩) ?_ ?_
 rotate_left
 ·intro w'
  go_simp
  with_reducible rfl
 rotate_left
 ·simp only [Act.put, sQ0, sQ1, sQ2, i64_w]
  rfl
 refine pure_ (i := 8) (N := (some 15)) (v := ?_) (a' := ?_) #[tt,tt,tt,tt,tt,ff,tt,tt,tt,ff,ff,ff] rfl rfl (any_of HT_.out (by kernel_rfl)) (fun _ _ _ h => h) (Or.inl ⟨by rfl, ?_⟩) ?_ ?_
 rotate_left
 ·intro w'
  go_simp
  with_reducible rfl
 rotate_left
 ·simp only [Act.put, sQ0, sQ1, sQ2, i64_w]
  rfl
 refine take_ (i := 5) (N := (some 12)) (v := ?_) (a' := ?_) #[tt,tt,tt,tt,tt,tt,tt,tt,tt,ff,ff,ff] rfl rfl (take_ofW HT_.out HW_.out (by kernel_rfl)) (fun _ _ _ h => h) (Or.inl ⟨by rfl, ?_⟩) hHeld ?_ ?_
 rotate_left
 ·rintro w' ⟨s0, s1⟩
  go_simp
  with_reducible rfl
 rotate_left
 ·simp only [Act.put, sQ0, sQ1, sQ2, i64_w]
  rfl
 refine take_ (i := 9) (N := (some 16)) (v := ?_) (a' := ?_) #[tt,tt,tt,tt,tt,tt,tt,tt,tt,tt,ff,ff] rfl rfl (take_ofW HT_.out HW_.out (by kernel_rfl)) (fun _ _ _ h => h) (Or.inl ⟨by rfl, ?_⟩) hHeld ?_ ?_
 rotate_left
 ·rintro w' ⟨s0, s1⟩
  go_simp
  with_reducible rfl
 rotate_left
 ·simp only [Act.put, sQ0, sQ1, sQ2, i64_w]
  rfl
 refine pure_ (i := 10) (N := (some 17)) (v := ?_) (a' := ?_) #[tt,tt,tt,tt,tt,tt,tt,tt,tt,tt,tt,ff] rfl rfl (any_of HT_.out (by kernel_rfl)) (fun _ _ _ h => h) (Or.inl ⟨by rfl, ?_⟩) ?_ ?_
 rotate_left
 ·intro w'
  go_simp
  with_reducible rfl
 rotate_left
 ·simp only [Act.put, sQ0, sQ1, sQ2, i64_w]
  rfl
 refine pure_ (i := 11) (N := (some 18)) (v := ?_) (a' := ?_) #[tt,tt,tt,tt,tt,tt,tt,tt,tt,tt,tt,tt] rfl rfl (any_of HT_.out (by kernel_rfl)) (fun _ _ _ h => h) (Or.inl ⟨by rfl, ?_⟩) ?_ ?_
 rotate_left
 ·intro w'
  go_simp
  with_reducible rfl
 rotate_left
 ·simp only [Act.put, sQ0, sQ1, sQ2, i64_w]
  rfl
 refine done_ (done_of HT_.out (by kernel_rfl)) ?_
 clear hHeld
 clear hlb hle
 have hcb := fun i => HJ3.out.be.cell i
 have hce := fun i => blk_cell HJ3.out.eb_ i
 have hlb := HJ3.out.be.lt
 have hle := blk_lt HJ3.out.eb_
 go_upto_region 3 with (fail)
 refine gen_world' (fun W => Bj w W B b n mb m1 m2 m3 s pf e w.heap.size) (by exact HJ3.out) fun w4 Hw4 => ?_
 have HJw4 := Aside0.mk Hw4
 clear Hw4
 clear hcb hce hlb hle
 have hcb := fun i => HJw4.out.be.cell i
 have hce := fun i => blk_cell HJw4.out.eb_ i
 have hlb := HJw4.out.be.lt
 have hle := blk_lt HJw4.out.eb_
 have hl := fun q => HJw4.out.be.look HWK.out (w4.drewN q) rfl
 rw [pV_some HP.out] at hl
 simp only [Option.getD_some, Option.getD_none, Option.isSome_some, Option.isSome_none] at hl
 go_quiet (fail)
 clear hl
 go_upto_region 16 with (fail)
 refine gen_world' (fun W => Bj w W B b n mb m1 m2 m3 s pf e w.heap.size) (by exact HJw4.out.drewN _) fun w5 Hw5 => ?_
 have HJw5 := Aside0.mk Hw5
 clear Hw5
 clear hcb hce hlb hle
 have hcb := fun i => HJw5.out.be.cell i
 have hce := fun i => blk_cell HJw5.out.eb_ i
 have hlb := HJw5.out.be.lt
 have hle := blk_lt HJw5.out.eb_
 obtain ⟨iv, pp, hgb, hop⟩ : ∃ iv pp, (w5).heap[g]? = some (.cells (wkA iv k.beg pp) 119 (0, 0)) ∧ iv.op = k.op := by obtain ⟨g0, a, _, iv, pp, c, d, _⟩ := HJw5.out.be.busy HS.out; obtain rfl := Option.some.inj (a.symm.trans HP.out); exact ⟨iv, pp, c, d⟩
 have hcg := fun i => blk_cell hgb i
 have hlg := blk_lt hgb
 rw [← hop] at f0
 clear hgb hop
 go_quiet (fail)
 clear hcg hlg
 have CA : Aside0 (∀ W, Bj w W B b n mb m1 m2 m3 s pf e w.heap.size → Calls Try.prog 67 #[pA g, .agg (evA e)] W fun r w' => r = .returned (.bool (answersB k e)) ∧ Below W.heap.size W w') := ⟨fun W hW => answers_any (by obtain ⟨g0, a, c⟩ := hW.be.busy HS.out; obtain rfl := Option.some.inj (a.symm.trans HP.out); exact c) e⟩
 rw [f5] at CA
 go_wp2_with (first | (go_at_call 67; (with_reducible refine (CA.out _ (by exact HJw5.out.drewN _)).mono ?_); rintro r w7 ⟨rfl, hb⟩; have HJw7 := Aside0.mk ((HJw5.out.drewN _).step hb); clear hb hcb hce hlb hle; have hcb := fun i => HJw7.out.be.cell i; have hce := fun i => blk_cell HJw7.out.eb_ i; have hlb := HJw7.out.be.lt; have hle := blk_lt HJw7.out.eb_))
 go_ret
 exact BePost.of HF.out rfl (HJw7.out.be.up (by omega)) HJw7.out.bel
theorem hear_back {w : World} {B b n mb m1 m2 m3 : Nat} {s : Be} {pf : Int → Option Nat} {k : Wk} (e : Ev) (hw : (Lit.int .i64 e.hn).wf = true ∧ (Lit.int .i64 e.hg).wf = true ∧ (Lit.int .i64 e.nn).wf = true ∧ (Lit.int .i64 e.ng).wf = true) (hwk : (Lit.int .i64 e.wk).wf = true) (hn : n + 4 ≤ 1000000) (hwl : ∀ x, (Lit.int .i64 ((s.m.lst x).getD 0)).wf = true) (h : BeIs w B b n s mb m1 m2 m3 pf) (hB : B ≤ w.heap.size) (hr : rightJ e = true) (hnw : ¬ s.nw ≤ e.wk) (hk : e.k = 5) (ho : k.op = e.op) (h4 : e.op ≤ 4) (ha : answersB k e = true) (hs : s.wks e.wk = some k) :
  Calls Try.prog 29 #[pA b, .agg (evA e)] w (BePost w B b n mb m1 m2 m3 (hearF s e)) := by
 have hu0 := Try.underlying61
 have hu1 := Try.underlying34
 have hu2 := Try.underlying54
 have hu3 := Try.underlying119
 have HF := Aside0.mk (show hearF s e = ({ s with wks := updW s.wks e.wk none }, 0) by unfold hearF; rw [if_neg (fun q => by rcases q with q | q; (rw [hr] at q; cases q); omega)]; rw [if_neg (by omega), hs]; simp only; rw [if_neg (by omega), if_neg (by omega), if_neg (by omega), if_neg (by omega), if_neg (by rw [ha]; simp)])
 have d0 : decide (e.wk ≥ s.nw) = false := decide_eq_false hnw
 have k1 : (e.k == 1) = false := beq_eq_false_iff_ne.2 (by omega)
 have k2 : (e.k == 2) = false := beq_eq_false_iff_ne.2 (by omega)
 have k3 : (e.k == 3) = false := beq_eq_false_iff_ne.2 (by omega)
 have k4 : (e.k == 4) = false := beq_eq_false_iff_ne.2 (by omega)
 have f0 : (k.op != e.op) = false := bne_eq_false_iff_eq.2 (ho)
 have f4 : decide (e.op ≤ 4) = true := decide_eq_true h4
 have f5 := ha
 have CR := Aside0.mk (fun W => right_run e W)
 rw [hr] at CR
 have HW := Aside0.mk hw
 have HWK := Aside0.mk hwk
 have HN := Aside0.mk hn
 have HWL := Aside0.mk hwl
 have HJ := Aside0.mk (Bj.start h hB e)
 have HP0 := h.busy hs
 obtain ⟨g, hp, _⟩ := HP0
 have HP := Aside0.mk hp
 clear hp
 have HS := Aside0.mk hs
 clear hw hwk hn hwl h hB hr hnw hk ho h4 ha hs
 have hcb := fun i => HJ.out.be.cell i
 have hce := fun i => blk_cell HJ.out.eb_ i
 have hlb := HJ.out.be.lt
 have hle := blk_lt HJ.out.eb_
 go_enter Try.func29, Try.ntmps29
 go_upto_region 1 with (fail)
 refine start_ (n := 12) (S := (fun w' => (∀ i, w'.cell? ⟨b, i, none⟩ = (beA s.nw mb m3)[i]?) ∧ (∀ i, w'.cell? ⟨w.heap.size, i, none⟩ = (evA e)[i]?))) (ds := []) #[ff,ff,ff,ff,ff,ff,ff,ff,ff,ff,ff,ff] (by kernel_rfl) rfl rfl HJ.out.drew.cells (fun hHeld => ?_)
 refine with_tabW heR.tab1 heR.bits1 (fun HT_ HW_ => ?_)
 have HJ2 := Aside0.mk HJ.out.drew
 generalize World.drew _ = w2 at HJ2 hHeld ⊢
 clear hcb hce hlb hle
 have hlb := HJ2.out.be.lt
 have hle := blk_lt HJ2.out.eb_
 refine take_ (i := 0) (N := (some 7)) (v := ?_) (a' := ?_) #[tt,ff,ff,ff,ff,ff,ff,ff,ff,ff,ff,ff] rfl rfl (take_ofW HT_.out HW_.out (by kernel_rfl)) (fun _ _ _ h => h) (Or.inl ⟨by rfl, ?_⟩) hHeld ?_ ?_
 rotate_left
 ·rintro w' ⟨s0, s1⟩
  go_simp
  with_reducible rfl
 rotate_left
 ·simp only [Act.put, sQ0, sQ1, sQ2, i64_w]
  rfl
 refine one_ (i := 1) (N := (some 8)) #[tt,tt,ff,ff,ff,ff,ff,ff,ff,ff,ff,ff] rfl rfl (one_of HT_.out (by kernel_rfl)) (by decide) (fun K hK => ?_)
 refine call_ (f := 65) #[.agg (evA e)] (by rfl) rfl (by go_simp <;> rfl) ?_
 refine (CR.out w2).mono ?_
 rintro r w3 ⟨rfl, hb⟩
 refine ⟨_, rfl, ?_⟩
 have HJ3 := Aside0.mk (HJ2.out.step hb)
 clear hb
 refine hK.out _ _ HJ3.out.cells (fun hHeld => ?_)
 clear hK K
 refine norm_ (a' := ?_) ?_ ?_
 rotate_left
 ·show Act.put _ (some 8) _ = _
  simp only [Act.put, sQ0, sQ1, sQ2, i64_w]
  rfl
 refine pure_ (i := 2) (N := (some 9)) (v := ?_) (a' := ?_) #[tt,tt,tt,ff,ff,ff,ff,ff,ff,ff,ff,ff] rfl rfl (any_of HT_.out (by kernel_rfl)) (fun _ _ _ h => h) (Or.inl ⟨by rfl, ?_⟩) ?_ ?_
 rotate_left
 ·intro w'
  go_simp
  with_reducible rfl
 rotate_left
 ·simp only [Act.put, sQ0, sQ1, sQ2, i64_w]
  rfl
 refine pure_ (i := 3) (N := (some 10)) (v := ?_) (a' := ?_) #[tt,tt,tt,tt,ff,ff,ff,ff,ff,ff,ff,ff] rfl rfl (any_of HT_.out (by kernel_rfl)) (fun _ _ _ h => h) (Or.inl ⟨by rfl, ?_⟩) ?_ ?_
 rotate_left
 ·intro w'
  go_simp
  with_reducible rfl
 rotate_left
 ·simp only [Act.put, sQ0, sQ1, sQ2, i64_w]
  rfl
 refine pure_ (i := 4) (N := (some 11)) (v := ?_) (a' := ?_) #[tt,tt,tt,tt,tt,ff,ff,ff,ff,ff,ff,ff] rfl rfl (any_of HT_.out (by kernel_rfl)) (fun _ _ _ h => h) (Or.inl ⟨by rfl, ?_⟩) ?_ ?_
 rotate_left
 ·intro w'
  go_simp
  with_reducible rfl
 rotate_left
 ·simp only [Act.put, sQ0, sQ1, sQ2, i64_w]
  rfl
 refine pure_ (i := 6) (N := (some 13)) (v := ?_) (a' := ?_) #[tt,tt,tt,tt,tt,ff,tt,ff,ff,ff,ff,ff] rfl rfl (any_of HT_.out (by kernel_rfl)) (fun _ _ _ h => h) (Or.inl ⟨by rfl, ?_⟩) ?_ ?_
 rotate_left
 ·intro w'
  go_simp
  with_reducible rfl
 rotate_left
 ·simp only [Act.put, sQ0, sQ1, sQ2, i64_w]
  rfl
 refine pure_ (i := 7) (N := (some 14)) (v := ?_) (a' := ?_) #[tt,tt,tt,tt,tt,ff,tt,tt,ff,ff,ff,ff] rfl rfl (any_of HT_.out (by kernel_rfl)) (fun _ _ _ h => h) (Or.inl ⟨by rfl, ?_⟩) ?_ ?_
 rotate_left
 ·intro w'
  go_simp
  with_reducible rfl
 rotate_left
 ·simp only [Act.put, sQ0, sQ1, sQ2, i64_w]
  rfl
 refine pure_ (i := 8) (N := (some 15)) (v := ?_) (a' := ?_) #[tt,tt,tt,tt,tt,ff,tt,tt,tt,ff,ff,ff] rfl rfl (any_of HT_.out (by kernel_rfl)) (fun _ _ _ h => h) (Or.inl ⟨by rfl, ?_⟩) ?_ ?_
 rotate_left
 ·intro w'
  go_simp
  with_reducible rfl
 rotate_left
 ·simp only [Act.put, sQ0, sQ1, sQ2, i64_w]
  rfl
 refine take_ (i := 5) (N := (some 12)) (v := ?_) (a' := ?_) #[tt,tt,tt,tt,tt,tt,tt,tt,tt,ff,ff,ff] rfl rfl (take_ofW HT_.out HW_.out (by kernel_rfl)) (fun _ _ _ h => h) (Or.inl ⟨by rfl, ?_⟩) hHeld ?_ ?_
 rotate_left
 ·rintro w' ⟨s0, s1⟩
  go_simp
  with_reducible rfl
 rotate_left
 ·simp only [Act.put, sQ0, sQ1, sQ2, i64_w]
  rfl
 refine take_ (i := 9) (N := (some 16)) (v := ?_) (a' := ?_) #[tt,tt,tt,tt,tt,tt,tt,tt,tt,tt,ff,ff] rfl rfl (take_ofW HT_.out HW_.out (by kernel_rfl)) (fun _ _ _ h => h) (Or.inl ⟨by rfl, ?_⟩) hHeld ?_ ?_
 rotate_left
 ·rintro w' ⟨s0, s1⟩
  go_simp
  with_reducible rfl
 rotate_left
 ·simp only [Act.put, sQ0, sQ1, sQ2, i64_w]
  rfl
 refine pure_ (i := 10) (N := (some 17)) (v := ?_) (a' := ?_) #[tt,tt,tt,tt,tt,tt,tt,tt,tt,tt,tt,ff] rfl rfl (any_of HT_.out (by kernel_rfl)) (fun _ _ _ h => h) (Or.inl ⟨by rfl, ?_⟩) ?_ ?_
 rotate_left
 ·intro w'
  go_simp
  with_reducible rfl
 rotate_left
 ·simp only [Act.put, sQ0, sQ1, sQ2, i64_w]
  rfl
 refine pure_ (i := 11) (N := (some 18)) (v := ?_) (a' := ?_) #[tt,tt,tt,tt,tt,tt,tt,tt,tt,tt,tt,tt] rfl rfl (any_of HT_.out (by kernel_rfl)) (fun _ _ _ h => h) (Or.inl ⟨by rfl, ?_⟩) ?_ ?_
 rotate_left
 ·intro w'
  go_simp
  with_reducible rfl
 rotate_left
 ·simp only [Act.put, sQ0, sQ1, sQ2, i64_w]
  rfl
 refine done_ (done_of HT_.out (by kernel_rfl)) ?_
 clear hHeld
 clear hlb hle
 have hcb := fun i => HJ3.out.be.cell i
 have hce := fun i => blk_cell HJ3.out.eb_ i
 have hlb := HJ3.out.be.lt
 have hle := blk_lt HJ3.out.eb_
 go_upto_region 3 with (fail)
 refine gen_world' (fun W => Bj w W B b n mb m1 m2 m3 s pf e w.heap.size) (by exact HJ3.out) fun w4 Hw4 => ?_
 have HJw4 := Aside0.mk Hw4
 clear Hw4
 clear hcb hce hlb hle
 have hcb := fun i => HJw4.out.be.cell i
 have hce := fun i => blk_cell HJw4.out.eb_ i
 have hlb := HJw4.out.be.lt
 have hle := blk_lt HJw4.out.eb_
 have hl := fun q => HJw4.out.be.look HWK.out (w4.drewN q) rfl
 rw [pV_some HP.out] at hl
 simp only [Option.getD_some, Option.getD_none, Option.isSome_some, Option.isSome_none] at hl
 go_quiet (fail)
 clear hl
 go_upto_region 16 with (fail)
 refine gen_world' (fun W => Bj w W B b n mb m1 m2 m3 s pf e w.heap.size) (by exact HJw4.out.drewN _) fun w5 Hw5 => ?_
 have HJw5 := Aside0.mk Hw5
 clear Hw5
 clear hcb hce hlb hle
 have hcb := fun i => HJw5.out.be.cell i
 have hce := fun i => blk_cell HJw5.out.eb_ i
 have hlb := HJw5.out.be.lt
 have hle := blk_lt HJw5.out.eb_
 obtain ⟨iv, pp, hgb, hop⟩ : ∃ iv pp, (w5).heap[g]? = some (.cells (wkA iv k.beg pp) 119 (0, 0)) ∧ iv.op = k.op := by obtain ⟨g0, a, _, iv, pp, c, d, _⟩ := HJw5.out.be.busy HS.out; obtain rfl := Option.some.inj (a.symm.trans HP.out); exact ⟨iv, pp, c, d⟩
 have hcg := fun i => blk_cell hgb i
 have hlg := blk_lt hgb
 rw [← hop] at f0
 clear hgb hop
 go_quiet (fail)
 clear hcg hlg
 have CA : Aside0 (∀ W, Bj w W B b n mb m1 m2 m3 s pf e w.heap.size → Calls Try.prog 67 #[pA g, .agg (evA e)] W fun r w' => r = .returned (.bool (answersB k e)) ∧ Below W.heap.size W w') := ⟨fun W hW => answers_any (by obtain ⟨g0, a, c⟩ := hW.be.busy HS.out; obtain rfl := Option.some.inj (a.symm.trans HP.out); exact c) e⟩
 rw [f5] at CA
 go_upto_region 22 with ((go_at_call 67; (with_reducible refine (CA.out _ (by exact HJw5.out.drewN _)).mono ?_); rintro r w7 ⟨rfl, hb⟩; have HJw7 := Aside0.mk ((HJw5.out.drewN _).step hb); clear hb hcb hce hlb hle; have hcb := fun i => HJw7.out.be.cell i; have hce := fun i => blk_cell HJw7.out.eb_ i; have hlb := HJw7.out.be.lt; have hle := blk_lt HJw7.out.eb_))
 refine gen_world' (fun W => Bj w W B b n mb m1 m2 m3 s pf e w.heap.size) (by exact HJw7.out) fun w8 Hw8 => ?_
 have HJw8 := Aside0.mk Hw8
 clear Hw8
 clear hcb hce hlb hle
 have hcb := fun i => HJw8.out.be.cell i
 have hce := fun i => blk_cell HJw8.out.eb_ i
 have hlb := HJw8.out.be.lt
 have hle := blk_lt HJw8.out.eb_
 refine still_tail_at' 6 (by kernel_rfl) (by kernel_rfl) fun w9 hw9 => ?_
 have HJ9 := Aside0.mk (show Bj w w9 B b n mb m1 m2 m3 s pf e w.heap.size by rw [hw9]; exact HJw8.out.drew)
 clear hw9
 clear hcb hce hlb hle
 have hcb := fun i => HJ9.out.be.cell i
 have hce := fun i => blk_cell HJ9.out.eb_ i
 have hlb := HJ9.out.be.lt
 have hle := blk_lt HJ9.out.eb_
 simp only [List.take_succ_cons, List.take_zero, List.drop_succ_cons, List.drop_zero]
 repeat still_step
 refine wpStill_nil ?_
 obtain ⟨z, hm, hnext⟩ := HJ9.out.be.drop HS.out
 refine wpl_drop int_inj' rfl _ _ 59 rfl hm lawI Try.underlying59 (y := e.wk) (keyOf_int_mk Try.underlying3 HWK.out) rfl rfl ?_
 intro w10 hm10 hg10
 have HI := Aside0.mk (And.intro (hnext w10 hm10 hg10) (HJ9.out.bel.trans (Blw.map hg10 (by have := HJ9.out.bel.size; have := HJ9.out.hB; omega) HJ9.out.be.h3 HJ9.out.be.map3)))
 clear hm10 hg10 hnext hm
 go_wp2
 go_ret
 exact BePost.of HF.out rfl (HI.out.1.up (by omega)) HI.out.2
theorem hear_back_5 {w : World} {B b n mb m1 m2 m3 : Nat} {s : Be} {pf : Int → Option Nat} {k : Wk} (e : Ev) (hw : (Lit.int .i64 e.hn).wf = true ∧ (Lit.int .i64 e.hg).wf = true ∧ (Lit.int .i64 e.nn).wf = true ∧ (Lit.int .i64 e.ng).wf = true) (hwk : (Lit.int .i64 e.wk).wf = true) (hn : n + 4 ≤ 1000000) (hwl : ∀ x, (Lit.int .i64 ((s.m.lst x).getD 0)).wf = true) (h : BeIs w B b n s mb m1 m2 m3 pf) (hB : B ≤ w.heap.size) (hr : rightJ e = true) (hnw : ¬ s.nw ≤ e.wk) (hk : e.k = 5) (ho : k.op = e.op) (h4 : ¬ e.op ≤ 4) (hs : s.wks e.wk = some k) :
  Calls Try.prog 29 #[pA b, .agg (evA e)] w (BePost w B b n mb m1 m2 m3 (hearF s e)) := by
 have hu0 := Try.underlying61
 have hu1 := Try.underlying34
 have hu2 := Try.underlying54
 have hu3 := Try.underlying119
 have HF := Aside0.mk (show hearF s e = ({ s with wks := updW s.wks e.wk none }, 0) by unfold hearF; rw [if_neg (fun q => by rcases q with q | q; (rw [hr] at q; cases q); omega)]; rw [if_neg (by omega), hs]; simp only; rw [if_neg (by omega), if_neg (by omega), if_neg (by omega), if_neg (by omega), if_neg (fun q => h4 q.1)])
 have d0 : decide (e.wk ≥ s.nw) = false := decide_eq_false hnw
 have k1 : (e.k == 1) = false := beq_eq_false_iff_ne.2 (by omega)
 have k2 : (e.k == 2) = false := beq_eq_false_iff_ne.2 (by omega)
 have k3 : (e.k == 3) = false := beq_eq_false_iff_ne.2 (by omega)
 have k4 : (e.k == 4) = false := beq_eq_false_iff_ne.2 (by omega)
 have f0 : (k.op != e.op) = false := bne_eq_false_iff_eq.2 (ho)
 have f4 : decide (e.op ≤ 4) = false := decide_eq_false h4
 have CR := Aside0.mk (fun W => right_run e W)
 rw [hr] at CR
 have HW := Aside0.mk hw
 have HWK := Aside0.mk hwk
 have HN := Aside0.mk hn
 have HWL := Aside0.mk hwl
 have HJ := Aside0.mk (Bj.start h hB e)
 have HP0 := h.busy hs
 obtain ⟨g, hp, _⟩ := HP0
 have HP := Aside0.mk hp
 clear hp
 have HS := Aside0.mk hs
 clear hw hwk hn hwl h hB hr hnw hk ho h4 hs
 have hcb := fun i => HJ.out.be.cell i
 have hce := fun i => blk_cell HJ.out.eb_ i
 have hlb := HJ.out.be.lt
 have hle := blk_lt HJ.out.eb_
 go_enter Try.func29, Try.ntmps29
 go_upto_region 1 with (fail)
 refine start_ (n := 12) (S := (fun w' => (∀ i, w'.cell? ⟨b, i, none⟩ = (beA s.nw mb m3)[i]?) ∧ (∀ i, w'.cell? ⟨w.heap.size, i, none⟩ = (evA e)[i]?))) (ds := []) #[ff,ff,ff,ff,ff,ff,ff,ff,ff,ff,ff,ff] (by kernel_rfl) rfl rfl HJ.out.drew.cells (fun hHeld => ?_)
 refine with_tabW heR.tab1 heR.bits1 (fun HT_ HW_ => ?_)
 have HJ2 := Aside0.mk HJ.out.drew
 generalize World.drew _ = w2 at HJ2 hHeld ⊢
 clear hcb hce hlb hle
 have hlb := HJ2.out.be.lt
 have hle := blk_lt HJ2.out.eb_
 refine take_ (i := 0) (N := (some 7)) (v := ?_) (a' := ?_) #[tt,ff,ff,ff,ff,ff,ff,ff,ff,ff,ff,ff] rfl rfl (take_ofW HT_.out HW_.out (by kernel_rfl)) (fun _ _ _ h => h) (Or.inl ⟨by rfl, ?_⟩) hHeld ?_ ?_
 rotate_left
 ·rintro w' ⟨s0, s1⟩
  go_simp
  with_reducible rfl
 rotate_left
 ·simp only [Act.put, sQ0, sQ1, sQ2, i64_w]
  rfl
 refine one_ (i := 1) (N := (some 8)) #[tt,tt,ff,ff,ff,ff,ff,ff,ff,ff,ff,ff] rfl rfl (one_of HT_.out (by kernel_rfl)) (by decide) (fun K hK => ?_)
 refine call_ (f := 65) #[.agg (evA e)] (by rfl) rfl (by go_simp <;> rfl) ?_
 refine (CR.out w2).mono ?_
 rintro r w3 ⟨rfl, hb⟩
 refine ⟨_, rfl, ?_⟩
 have HJ3 := Aside0.mk (HJ2.out.step hb)
 clear hb
 refine hK.out _ _ HJ3.out.cells (fun hHeld => ?_)
 clear hK K
 refine norm_ (a' := ?_) ?_ ?_
 rotate_left
 ·show Act.put _ (some 8) _ = _
  simp only [Act.put, sQ0, sQ1, sQ2, i64_w]
  rfl
 refine pure_ (i := 2) (N := (some 9)) (v := ?_) (a' := ?_) #[tt,tt,tt,ff,ff,ff,ff,ff,ff,ff,ff,ff] rfl rfl (any_of HT_.out (by kernel_rfl)) (fun _ _ _ h => h) (Or.inl ⟨by rfl, ?_⟩) ?_ ?_
 rotate_left
 ·intro w'
  go_simp
  with_reducible rfl
 rotate_left
 ·simp only [Act.put, sQ0, sQ1, sQ2, i64_w]
  rfl
 refine pure_ (i := 3) (N := (some 10)) (v := ?_) (a' := ?_) #[tt,tt,tt,tt,ff,ff,ff,ff,ff,ff,ff,ff] rfl rfl (any_of HT_.out (by kernel_rfl)) (fun _ _ _ h => h) (Or.inl ⟨by rfl, ?_⟩) ?_ ?_
 rotate_left
 ·intro w'
  go_simp
  with_reducible rfl
 rotate_left
 ·simp only [Act.put, sQ0, sQ1, sQ2, i64_w]
  rfl
 refine pure_ (i := 4) (N := (some 11)) (v := ?_) (a' := ?_) #[tt,tt,tt,tt,tt,ff,ff,ff,ff,ff,ff,ff] rfl rfl (any_of HT_.out (by kernel_rfl)) (fun _ _ _ h => h) (Or.inl ⟨by rfl, ?_⟩) ?_ ?_
 rotate_left
 ·intro w'
  go_simp
  with_reducible rfl
 rotate_left
 ·simp only [Act.put, sQ0, sQ1, sQ2, i64_w]
  rfl
 refine pure_ (i := 6) (N := (some 13)) (v := ?_) (a' := ?_) #[tt,tt,tt,tt,tt,ff,tt,ff,ff,ff,ff,ff] rfl rfl (any_of HT_.out (by kernel_rfl)) (fun _ _ _ h => h) (Or.inl ⟨by rfl, ?_⟩) ?_ ?_
 rotate_left
 ·intro w'
  go_simp
  with_reducible rfl
 rotate_left
 ·simp only [Act.put, sQ0, sQ1, sQ2, i64_w]
  rfl
 refine pure_ (i := 7) (N := (some 14)) (v := ?_) (a' := ?_) #[tt,tt,tt,tt,tt,ff,tt,tt,ff,ff,ff,ff] rfl rfl (any_of HT_.out (by kernel_rfl)) (fun _ _ _ h => h) (Or.inl ⟨by rfl, ?_⟩) ?_ ?_
 rotate_left
 ·intro w'
  go_simp
  with_reducible rfl
 rotate_left
 ·simp only [Act.put, sQ0, sQ1, sQ2, i64_w]
  rfl
 refine pure_ (i := 8) (N := (some 15)) (v := ?_) (a' := ?_) #[tt,tt,tt,tt,tt,ff,tt,tt,tt,ff,ff,ff] rfl rfl (any_of HT_.out (by kernel_rfl)) (fun _ _ _ h => h) (Or.inl ⟨by rfl, ?_⟩) ?_ ?_
 rotate_left
 ·intro w'
  go_simp
  with_reducible rfl
 rotate_left
 ·simp only [Act.put, sQ0, sQ1, sQ2, i64_w]
  rfl
 refine take_ (i := 5) (N := (some 12)) (v := ?_) (a' := ?_) #[tt,tt,tt,tt,tt,tt,tt,tt,tt,ff,ff,ff] rfl rfl (take_ofW HT_.out HW_.out (by kernel_rfl)) (fun _ _ _ h => h) (Or.inl ⟨by rfl, ?_⟩) hHeld ?_ ?_
 rotate_left
 ·rintro w' ⟨s0, s1⟩
  go_simp
  with_reducible rfl
 rotate_left
 ·simp only [Act.put, sQ0, sQ1, sQ2, i64_w]
  rfl
 refine take_ (i := 9) (N := (some 16)) (v := ?_) (a' := ?_) #[tt,tt,tt,tt,tt,tt,tt,tt,tt,tt,ff,ff] rfl rfl (take_ofW HT_.out HW_.out (by kernel_rfl)) (fun _ _ _ h => h) (Or.inl ⟨by rfl, ?_⟩) hHeld ?_ ?_
 rotate_left
 ·rintro w' ⟨s0, s1⟩
  go_simp
  with_reducible rfl
 rotate_left
 ·simp only [Act.put, sQ0, sQ1, sQ2, i64_w]
  rfl
 refine pure_ (i := 10) (N := (some 17)) (v := ?_) (a' := ?_) #[tt,tt,tt,tt,tt,tt,tt,tt,tt,tt,tt,ff] rfl rfl (any_of HT_.out (by kernel_rfl)) (fun _ _ _ h => h) (Or.inl ⟨by rfl, ?_⟩) ?_ ?_
 rotate_left
 ·intro w'
  go_simp
  with_reducible rfl
 rotate_left
 ·simp only [Act.put, sQ0, sQ1, sQ2, i64_w]
  rfl
 refine pure_ (i := 11) (N := (some 18)) (v := ?_) (a' := ?_) #[tt,tt,tt,tt,tt,tt,tt,tt,tt,tt,tt,tt] rfl rfl (any_of HT_.out (by kernel_rfl)) (fun _ _ _ h => h) (Or.inl ⟨by rfl, ?_⟩) ?_ ?_
 rotate_left
 ·intro w'
  go_simp
  with_reducible rfl
 rotate_left
 ·simp only [Act.put, sQ0, sQ1, sQ2, i64_w]
  rfl
 refine done_ (done_of HT_.out (by kernel_rfl)) ?_
 clear hHeld
 clear hlb hle
 have hcb := fun i => HJ3.out.be.cell i
 have hce := fun i => blk_cell HJ3.out.eb_ i
 have hlb := HJ3.out.be.lt
 have hle := blk_lt HJ3.out.eb_
 go_upto_region 3 with (fail)
 refine gen_world' (fun W => Bj w W B b n mb m1 m2 m3 s pf e w.heap.size) (by exact HJ3.out) fun w4 Hw4 => ?_
 have HJw4 := Aside0.mk Hw4
 clear Hw4
 clear hcb hce hlb hle
 have hcb := fun i => HJw4.out.be.cell i
 have hce := fun i => blk_cell HJw4.out.eb_ i
 have hlb := HJw4.out.be.lt
 have hle := blk_lt HJw4.out.eb_
 have hl := fun q => HJw4.out.be.look HWK.out (w4.drewN q) rfl
 rw [pV_some HP.out] at hl
 simp only [Option.getD_some, Option.getD_none, Option.isSome_some, Option.isSome_none] at hl
 go_quiet (fail)
 clear hl
 go_upto_region 16 with (fail)
 refine gen_world' (fun W => Bj w W B b n mb m1 m2 m3 s pf e w.heap.size) (by exact HJw4.out.drewN _) fun w5 Hw5 => ?_
 have HJw5 := Aside0.mk Hw5
 clear Hw5
 clear hcb hce hlb hle
 have hcb := fun i => HJw5.out.be.cell i
 have hce := fun i => blk_cell HJw5.out.eb_ i
 have hlb := HJw5.out.be.lt
 have hle := blk_lt HJw5.out.eb_
 obtain ⟨iv, pp, hgb, hop⟩ : ∃ iv pp, (w5).heap[g]? = some (.cells (wkA iv k.beg pp) 119 (0, 0)) ∧ iv.op = k.op := by obtain ⟨g0, a, _, iv, pp, c, d, _⟩ := HJw5.out.be.busy HS.out; obtain rfl := Option.some.inj (a.symm.trans HP.out); exact ⟨iv, pp, c, d⟩
 have hcg := fun i => blk_cell hgb i
 have hlg := blk_lt hgb
 rw [← hop] at f0
 clear hgb hop
 go_quiet (fail)
 clear hcg hlg
 go_upto_region 22 with (fail)
 refine gen_world' (fun W => Bj w W B b n mb m1 m2 m3 s pf e w.heap.size) (by exact HJw5.out.drewN _) fun w8 Hw8 => ?_
 have HJw8 := Aside0.mk Hw8
 clear Hw8
 clear hcb hce hlb hle
 have hcb := fun i => HJw8.out.be.cell i
 have hce := fun i => blk_cell HJw8.out.eb_ i
 have hlb := HJw8.out.be.lt
 have hle := blk_lt HJw8.out.eb_
 refine still_tail_at' 6 (by kernel_rfl) (by kernel_rfl) fun w9 hw9 => ?_
 have HJ9 := Aside0.mk (show Bj w w9 B b n mb m1 m2 m3 s pf e w.heap.size by rw [hw9]; exact HJw8.out.drew)
 clear hw9
 clear hcb hce hlb hle
 have hcb := fun i => HJ9.out.be.cell i
 have hce := fun i => blk_cell HJ9.out.eb_ i
 have hlb := HJ9.out.be.lt
 have hle := blk_lt HJ9.out.eb_
 simp only [List.take_succ_cons, List.take_zero, List.drop_succ_cons, List.drop_zero]
 repeat still_step
 refine wpStill_nil ?_
 obtain ⟨z, hm, hnext⟩ := HJ9.out.be.drop HS.out
 refine wpl_drop int_inj' rfl _ _ 59 rfl hm lawI Try.underlying59 (y := e.wk) (keyOf_int_mk Try.underlying3 HWK.out) rfl rfl ?_
 intro w10 hm10 hg10
 have HI := Aside0.mk (And.intro (hnext w10 hm10 hg10) (HJ9.out.bel.trans (Blw.map hg10 (by have := HJ9.out.bel.size; have := HJ9.out.hB; omega) HJ9.out.be.h3 HJ9.out.be.map3)))
 clear hm10 hg10 hnext hm
 go_wp2
 go_ret
 exact BePost.of HF.out rfl (HI.out.1.up (by omega)) HI.out.2
end Go.Proofs.Ythniclbmpeklmaa.Ju
end
section
namespace Go.Proofs.Ythniclbmpeklmaa.Ju
open Go.RowKit Go.Maps Go.Proofs.YthniclbmpeklmaaW.PrintWords Go.Proofs.YthniclbmpeklmaaW.PrintLast Go.Proofs.YthniclbmpeklmaaW.PrintMore Go.Proofs.Ythniclbmpeklmaa.Mp Go.Proofs.Ythniclbmpeklmaa.Au
set_option linter.unusedVariables false
set_option linter.unusedSimpArgs false
theorem hear_any {w : World} {B b n mb m1 m2 m3 : Nat} {s : Be} {pf : Int → Option Nat} (e : Ev) (hw : (Lit.int .i64 e.hn).wf = true ∧ (Lit.int .i64 e.hg).wf = true ∧ (Lit.int .i64 e.nn).wf = true ∧ (Lit.int .i64 e.ng).wf = true) (hwk : (Lit.int .i64 e.wk).wf = true) (hn : n + 4 ≤ 1000000) (hwl : ∀ x, (Lit.int .i64 ((s.m.lst x).getD 0)).wf = true) (h : BeIs w B b n s mb m1 m2 m3 pf) (hB : B ≤ w.heap.size) :
  Calls Try.prog 29 #[pA b, .agg (evA e)] w (BePost w B b n mb m1 m2 m3 (hearF s e)) := by
 cases hr : rightJ e with
 | false => exact hear_wrong e hw hwk hn hwl h hB hr
 | true =>
  by_cases hnw : s.nw ≤ e.wk
  ·exact hear_worker e hw hwk hn hwl h hB hr hnw
  have hk : e.k = 1 ∨ e.k = 2 ∨ e.k = 3 ∨ e.k = 4 ∨ e.k = 5 := by
   have h := hr
   unfold rightJ Ev.evRight Ev.kindB at h
   simp at h
   omega
  cases hs : s.wks e.wk with
  | none =>
   rcases hk with hk | hk | hk | hk | hk
   ·exact hear_tick e hw hwk hn hwl h hB hr hnw hk hs
   ·exact hear_invoke e hw hwk hn hwl h hB hr hnw hk hs
   ·exact hear_other_i e hw hwk hn hwl h hB hr hnw (.inl hk) hs
   ·exact hear_fire_i e hw hwk hn hwl h hB hr hnw hk hs
   ·exact hear_other_i e hw hwk hn hwl h hB hr hnw (.inr hk) hs
  | some k =>
   rcases hk with hk | hk | hk | hk | hk
   ·exact hear_tick_b e hw hwk hn hwl h hB hr hnw hk hs
   ·exact hear_invoke_b e hw hwk hn hwl h hB hr hnw hk hs
   ·by_cases ho : k.op = e.op
    ·exact hear_point e hw hwk hn hwl h hB hr hnw hk ho hs
    ·exact hear_other_op e hw hwk hn hwl h hB hr hnw (.inl hk) ho hs
   ·by_cases ho : k.op = 5
    ·by_cases ht : e.t < k.beg
     ·exact hear_fire_early e hw hwk hn hwl h hB hr hnw hk ho ht hs
     ·exact hear_fire e hw hwk hn hwl h hB hr hnw hk ho ht hs
    ·exact hear_fire_op e hw hwk hn hwl h hB hr hnw hk ho hs
   ·by_cases ho : k.op = e.op
    ·by_cases h4 : e.op ≤ 4
     ·cases ha : answersB k e with
      | false => exact hear_back_no e hw hwk hn hwl h hB hr hnw hk ho h4 ha hs
      | true => exact hear_back e hw hwk hn hwl h hB hr hnw hk ho h4 ha hs
     ·exact hear_back_5 e hw hwk hn hwl h hB hr hnw hk ho h4 hs
    ·exact hear_other_op e hw hwk hn hwl h hB hr hnw (.inr hk) ho hs
def wfJ (e : Ev) : Prop := ((Lit.int .i64 e.hn).wf = true ∧ (Lit.int .i64 e.hg).wf = true ∧ (Lit.int .i64 e.nn).wf = true ∧ (Lit.int .i64 e.ng).wf = true) ∧ (Lit.int .i64 e.wk).wf = true
def LstOk (m : Md) : Prop := ∀ x, (Lit.int .i64 ((m.lst x).getD 0)).wf = true
theorem lst_arm {m : Md} (h : LstOk m) {x : Ha} {d : Int} (hx : (Lit.int .i64 x.2).wf = true) : LstOk (m.arm x d) := fun y => by
 show (Lit.int .i64 ((updL m.lst x.1 x.2 y).getD 0)).wf = true
 unfold updL
 by_cases q : y = x.1
 ·rw [if_pos q]; exact hx
 ·rw [if_neg q]; exact h y
theorem lst_end {m : Md} (h : LstOk m) (x : Ha) (s : Int) : LstOk (m.end_ x s) := h
theorem lst_point {m : Md} {e : Ev} (h : LstOk m) (hw : wfJ e) : LstOk (pointF m e).1 := by
 unfold pointF
 split
 ·split
  ·exact lst_end h _ _
  ·exact h
 ·split
  ·split <;> exact h
  ·split
   ·exact h
   ·split
    ·split
     ·exact lst_arm h hw.1.2.2.2
     ·exact h
    ·split
     ·split <;> exact h
     ·split
      ·exact lst_arm (lst_end h _ _) hw.1.2.2.2
      ·exact h
theorem lst_do {m : Md} {e : Ev} (h : LstOk m) (hw : wfJ e) : LstOk (doF m e).1 := by
 have hp := lst_point h hw
 unfold doF
 generalize pointF m e = q at hp ⊢
 split
 ·exact h
 ·split
  ·split <;> exact h
  ·split
   ·split
    ·exact lst_end h _ _
    ·exact h
   ·split
    ·exact hp
    ·exact h
theorem lst_pb {s : Be} {k : Wk} {e : Ev} (h : LstOk s.m) (h1 : LstOk (doF s.m e).1) : LstOk (pointB s k e).1.m := by
 unfold pointB
 generalize doF s.m e = q at h1 ⊢
 split
 ·split <;> exact h1
 ·exact h
theorem lst_hear {s : Be} {e : Ev} (h : LstOk s.m) (hw : wfJ e) : LstOk (hearF s e).1.m := by
 have h1 := lst_do h hw
 have h2 := fun k => lst_pb (k := k) h h1
 unfold hearF
 generalize doF s.m e = q at h1 ⊢
 split
 ·exact h
 ·split
  ·exact h1
  ·split
   ·split <;> exact h
   ·split
    ·exact h
    ·split
     ·split
      ·exact h
      ·exact h1
     ·split
      ·exact h
      ·split
       ·exact h2 _
       ·split <;> exact h
def EvIn (w : World) (A : Option Addr) (i : Nat) (e : Ev) : Prop := ∃ ad, A = some ad ∧ w.cell? (ad.add (i * 12)) = some (.int .i64 e.k) ∧ w.cell? ⟨(ad.add (i * 12)).block, (ad.add (i * 12)).off + 1, none⟩ = some (.int .i64 e.wk) ∧ w.cell? ⟨(ad.add (i * 12)).block, (ad.add (i * 12)).off + 2, none⟩ = some (.int .i64 e.op) ∧ w.cell? ⟨(ad.add (i * 12)).block, (ad.add (i * 12)).off + 3, none⟩ = some (.int .i64 e.hn) ∧ w.cell? ⟨(ad.add (i * 12)).block, (ad.add (i * 12)).off + 4, none⟩ = some (.int .i64 e.hg) ∧ w.cell? ⟨(ad.add (i * 12)).block, (ad.add (i * 12)).off + 5, none⟩ = some (.int .i64 e.nn) ∧ w.cell? ⟨(ad.add (i * 12)).block, (ad.add (i * 12)).off + 6, none⟩ = some (.int .i64 e.ng) ∧ w.cell? ⟨(ad.add (i * 12)).block, (ad.add (i * 12)).off + 7, none⟩ = some (.int .i64 e.t) ∧ w.cell? ⟨(ad.add (i * 12)).block, (ad.add (i * 12)).off + 8, none⟩ = some (.int .i64 e.a) ∧ w.cell? ⟨(ad.add (i * 12)).block, (ad.add (i * 12)).off + 9, none⟩ = some (.int .i64 e.u) ∧ w.cell? ⟨(ad.add (i * 12)).block, (ad.add (i * 12)).off + 10, none⟩ = some (.bool e.y) ∧ w.cell? ⟨(ad.add (i * 12)).block, (ad.add (i * 12)).off + 11, none⟩ = some (.int .i64 e.er)
theorem EvIn.below {w w1 : World} {A : Option Addr} {i : Nat} {e : Ev} (h : EvIn w A i e) (hb : Below w.heap.size w w1) : EvIn w1 A i e := by
 obtain ⟨ad, h0, h1, h2, h3, h4, h5, h6, h7, h8, h9, h10, h11, h12⟩ := h
 exact ⟨ad, h0, (pw_cell_below hb h1), (pw_cell_below hb h2), (pw_cell_below hb h3), (pw_cell_below hb h4), (pw_cell_below hb h5), (pw_cell_below hb h6), (pw_cell_below hb h7), (pw_cell_below hb h8), (pw_cell_below hb h9), (pw_cell_below hb h10), (pw_cell_below hb h11), (pw_cell_below hb h12)⟩
end Go.Proofs.Ythniclbmpeklmaa.Ju
end
section
namespace Go.Proofs.Ythniclbmpeklmaa.Ju
open Go.RowKit Go.Maps Go.Proofs.YthniclbmpeklmaaW.PrintWords Go.Proofs.YthniclbmpeklmaaW.PrintLast Go.Proofs.YthniclbmpeklmaaW.PrintMore Go.Proofs.Ythniclbmpeklmaa.Mp Go.Proofs.Ythniclbmpeklmaa.Au
set_option linter.unusedVariables false
set_option linter.unusedSimpArgs false
def spE : Ev := ⟨5, 0, 5, 0, 0, 0, 0, 0, 0, 0, false, 0⟩
theorem sp_hear : (hearF (be0 1) spE).2 = 6 := by decide
set_option maxHeartbeats 4000000 in
set_option maxRecDepth 100000 in
theorem speaks_any (w : World) : Calls Try.prog 25 #[] w fun r w' => r = .returned (.bool true) ∧ Below w.heap.size w w' := by
 have CN := Aside0.mk (judge_new 1 (by omega) w)
 go_enter Try.func25, Try.ntmps25
 go_wp2_with (first
  | (go_at_call 26; (with_reducible refine CN.out.mono ?_); rintro r w2 ⟨b, mb, m1, m2, m3, rfl, hbe, hb⟩; have HB := Aside0.mk (And.intro hbe hb); have CH := Aside0.mk (show Calls Try.prog 29 #[pA b, .agg #[.int .i64 5, .int .i64 0, .int .i64 5, .int .i64 0, .int .i64 0, .int .i64 0, .int .i64 0, .int .i64 0, .int .i64 0, .int .i64 0, .bool false, .int .i64 0]] w2 fun r w' => r = .returned (.int .i64 6) ∧ Below w.heap.size w w' from (hear_any spE (by decide) (by decide) (by omega) (fun x => by rfl) hbe hb.size).mono fun r w' h => ⟨by rw [h.1, sp_hear], hb.trans h.2.2.b⟩); clear hbe hb)
  | (go_at_call 29; (with_reducible refine CH.out.mono ?_); rintro r w3 ⟨rfl, hb⟩; have HB3 := Aside0.mk hb; clear hb))
 go_ret
 exact ⟨rfl, HB3.out⟩
def wfB' (e : Ev) : Bool := (Lit.int .i64 e.wk).wf && (Lit.int .i64 e.hn).wf && (Lit.int .i64 e.hg).wf && (Lit.int .i64 e.nn).wf && (Lit.int .i64 e.ng).wf
theorem wfJ_of {e : Ev} (h : wfB' e = true) : wfJ e := by
 simp only [wfB', Bool.and_eq_true] at h
 exact ⟨⟨h.1.1.1.2, h.1.1.2, h.1.2, h.2⟩, h.1.1.1.1⟩
end Go.Proofs.Ythniclbmpeklmaa.Ju
end
section
namespace Go.Proofs.Ythniclbmpeklmaa.KJf
open Go.RowKit Go.Proofs.YthniclbmpeklmaaW.PrintWords Go.Proofs.YthniclbmpeklmaaW.PrintLast Go.Proofs.YthniclbmpeklmaaW.PrintMore
attribute [local go_sem] max2_int min2_int max_two min_two max_three min_three max_four min_four   -- for this text's walks alone
set_option linter.unusedVariables false
set_option linter.unusedSimpArgs false
def errW : Option Int → Value
 | none => .nilIface
 | some c => .iface 0 (.int .i64 c)
theorem errW_none : errW none = .nilIface := rfl
theorem errW_some (c : Int) : errW (some c) = .iface 0 (.int .i64 c) := rfl
theorem info66 : (Try.prog.info? 66).map (fun i => (i.zero, i.size, i.bytes)) = some (some (.agg #[(.int .i64 0), (.int .i64 0), (.int .i64 0), (.int .i64 0), (.int .i64 0), (.int .i64 0), (.int .i64 0), (.int .i64 0), (.int .i64 0), (.int .i64 0), (.bool false), (.int .i64 0), (.int .i64 0), (.bool false), (.int .i64 0), (.int .i64 0), (.int .i64 0), (.int .i64 0), (.int .i64 0), (.int .i64 0), (.int .i64 0), (.int .i64 0), (.int .i64 0), (.int .i64 0), (.bool false), (.int .i64 0)]), 26, 208) := by kernel_rfl
theorem info127 : (Try.prog.info? 127).map (fun i => (i.zero, i.size, i.bytes)) = some (some (.agg #[(.int .i64 0), (.int .i64 0), (.int .i64 0), (.int .i64 0)]), 4, 32) := by kernel_rfl
structure S36 where
 f0 : Int
 f1 : Int
def z36 : S36 := ⟨(0 : Int), (0 : Int)⟩
def k36 : Kd S36 := Kd.iso (Kd.pair (Kd.int .i64) (Kd.int .i64)) (fun x : S36 => (x.f0, x.f1))
theorem k36_open {w : World} {x : S36} {cs : List Value} (h : k36.K w x cs) : cs = [.int .i64 x.f0, .int .i64 x.f1] := by
 obtain ⟨_, _, rfl, rfl, rfl⟩ := h
 exact rfl
theorem k36_openM {w : World} {base : Nat} {ok : Nat → Prop} {x : S36} {cs : List Value} (h : k36.M w base ok x cs) : cs = [.int .i64 x.f0, .int .i64 x.f1] := by
 obtain ⟨_, _, rfl, rfl, rfl⟩ := h
 exact rfl
theorem k36_mk (w : World) (x : S36)  : k36.K w x [.int .i64 x.f0, .int .i64 x.f1] := ⟨[.int .i64 x.f0], [.int .i64 x.f1], rfl, rfl, rfl⟩
theorem k36_mkM (w : World) (base : Nat) (ok : Nat → Prop) (x : S36)  : k36.M w base ok x [.int .i64 x.f0, .int .i64 x.f1] := ⟨[.int .i64 x.f0], [.int .i64 x.f1], rfl, rfl, rfl⟩
structure S50 where
 f0 : Int
 f1 : Int
 f2 : Int
 f3 : S36
 f4 : S36
 f5 : Int
 f6 : Int
 f7 : Int
 f8 : Bool
 f9 : Int
def z50 : S50 := ⟨(0 : Int), (0 : Int), (0 : Int), z36, z36, (0 : Int), (0 : Int), (0 : Int), false, (0 : Int)⟩
def k50 : Kd S50 := Kd.iso (Kd.pair (Kd.int .i64) (Kd.pair (Kd.int .i64) (Kd.pair (Kd.int .i64) (Kd.pair k36 (Kd.pair k36 (Kd.pair (Kd.int .i64) (Kd.pair (Kd.int .i64) (Kd.pair (Kd.int .i64) (Kd.pair Kd.bool (Kd.int .i64)))))))))) (fun x : S50 => (x.f0, x.f1, x.f2, x.f3, x.f4, x.f5, x.f6, x.f7, x.f8, x.f9))
theorem k50_open {w : World} {x : S50} {cs : List Value} (h : k50.K w x cs) : cs = [.int .i64 x.f0, .int .i64 x.f1, .int .i64 x.f2, .int .i64 x.f3.f0, .int .i64 x.f3.f1, .int .i64 x.f4.f0, .int .i64 x.f4.f1, .int .i64 x.f5, .int .i64 x.f6, .int .i64 x.f7, .bool x.f8, .int .i64 x.f9] := by
 obtain ⟨_, _, rfl, rfl, ⟨_, _, rfl, rfl, ⟨_, _, rfl, rfl, ⟨_, _, rfl, s3, ⟨_, _, rfl, s5, ⟨_, _, rfl, rfl, ⟨_, _, rfl, rfl, ⟨_, _, rfl, rfl, ⟨_, _, rfl, rfl, rfl⟩⟩⟩⟩⟩⟩⟩⟩⟩ := h
 obtain rfl := k36_open s3
 obtain rfl := k36_open s5
 exact rfl
theorem k50_openM {w : World} {base : Nat} {ok : Nat → Prop} {x : S50} {cs : List Value} (h : k50.M w base ok x cs) : cs = [.int .i64 x.f0, .int .i64 x.f1, .int .i64 x.f2, .int .i64 x.f3.f0, .int .i64 x.f3.f1, .int .i64 x.f4.f0, .int .i64 x.f4.f1, .int .i64 x.f5, .int .i64 x.f6, .int .i64 x.f7, .bool x.f8, .int .i64 x.f9] := by
 obtain ⟨_, _, rfl, rfl, ⟨_, _, rfl, rfl, ⟨_, _, rfl, rfl, ⟨_, _, rfl, s3, ⟨_, _, rfl, s5, ⟨_, _, rfl, rfl, ⟨_, _, rfl, rfl, ⟨_, _, rfl, rfl, ⟨_, _, rfl, rfl, rfl⟩⟩⟩⟩⟩⟩⟩⟩⟩ := h
 obtain rfl := k36_openM s3
 obtain rfl := k36_openM s5
 exact rfl
theorem k50_mk (w : World) (x : S50)  : k50.K w x [.int .i64 x.f0, .int .i64 x.f1, .int .i64 x.f2, .int .i64 x.f3.f0, .int .i64 x.f3.f1, .int .i64 x.f4.f0, .int .i64 x.f4.f1, .int .i64 x.f5, .int .i64 x.f6, .int .i64 x.f7, .bool x.f8, .int .i64 x.f9] := ⟨[.int .i64 x.f0], [.int .i64 x.f1, .int .i64 x.f2, .int .i64 x.f3.f0, .int .i64 x.f3.f1, .int .i64 x.f4.f0, .int .i64 x.f4.f1, .int .i64 x.f5, .int .i64 x.f6, .int .i64 x.f7, .bool x.f8, .int .i64 x.f9], rfl, rfl, ⟨[.int .i64 x.f1], [.int .i64 x.f2, .int .i64 x.f3.f0, .int .i64 x.f3.f1, .int .i64 x.f4.f0, .int .i64 x.f4.f1, .int .i64 x.f5, .int .i64 x.f6, .int .i64 x.f7, .bool x.f8, .int .i64 x.f9], rfl, rfl, ⟨[.int .i64 x.f2], [.int .i64 x.f3.f0, .int .i64 x.f3.f1, .int .i64 x.f4.f0, .int .i64 x.f4.f1, .int .i64 x.f5, .int .i64 x.f6, .int .i64 x.f7, .bool x.f8, .int .i64 x.f9], rfl, rfl, ⟨[.int .i64 x.f3.f0, .int .i64 x.f3.f1], [.int .i64 x.f4.f0, .int .i64 x.f4.f1, .int .i64 x.f5, .int .i64 x.f6, .int .i64 x.f7, .bool x.f8, .int .i64 x.f9], rfl, (k36_mk w x.f3 ), ⟨[.int .i64 x.f4.f0, .int .i64 x.f4.f1], [.int .i64 x.f5, .int .i64 x.f6, .int .i64 x.f7, .bool x.f8, .int .i64 x.f9], rfl, (k36_mk w x.f4 ), ⟨[.int .i64 x.f5], [.int .i64 x.f6, .int .i64 x.f7, .bool x.f8, .int .i64 x.f9], rfl, rfl, ⟨[.int .i64 x.f6], [.int .i64 x.f7, .bool x.f8, .int .i64 x.f9], rfl, rfl, ⟨[.int .i64 x.f7], [.bool x.f8, .int .i64 x.f9], rfl, rfl, ⟨[.bool x.f8], [.int .i64 x.f9], rfl, rfl, rfl⟩⟩⟩⟩⟩⟩⟩⟩⟩
theorem k50_mkM (w : World) (base : Nat) (ok : Nat → Prop) (x : S50)  : k50.M w base ok x [.int .i64 x.f0, .int .i64 x.f1, .int .i64 x.f2, .int .i64 x.f3.f0, .int .i64 x.f3.f1, .int .i64 x.f4.f0, .int .i64 x.f4.f1, .int .i64 x.f5, .int .i64 x.f6, .int .i64 x.f7, .bool x.f8, .int .i64 x.f9] := ⟨[.int .i64 x.f0], [.int .i64 x.f1, .int .i64 x.f2, .int .i64 x.f3.f0, .int .i64 x.f3.f1, .int .i64 x.f4.f0, .int .i64 x.f4.f1, .int .i64 x.f5, .int .i64 x.f6, .int .i64 x.f7, .bool x.f8, .int .i64 x.f9], rfl, rfl, ⟨[.int .i64 x.f1], [.int .i64 x.f2, .int .i64 x.f3.f0, .int .i64 x.f3.f1, .int .i64 x.f4.f0, .int .i64 x.f4.f1, .int .i64 x.f5, .int .i64 x.f6, .int .i64 x.f7, .bool x.f8, .int .i64 x.f9], rfl, rfl, ⟨[.int .i64 x.f2], [.int .i64 x.f3.f0, .int .i64 x.f3.f1, .int .i64 x.f4.f0, .int .i64 x.f4.f1, .int .i64 x.f5, .int .i64 x.f6, .int .i64 x.f7, .bool x.f8, .int .i64 x.f9], rfl, rfl, ⟨[.int .i64 x.f3.f0, .int .i64 x.f3.f1], [.int .i64 x.f4.f0, .int .i64 x.f4.f1, .int .i64 x.f5, .int .i64 x.f6, .int .i64 x.f7, .bool x.f8, .int .i64 x.f9], rfl, (k36_mkM w base ok x.f3 ), ⟨[.int .i64 x.f4.f0, .int .i64 x.f4.f1], [.int .i64 x.f5, .int .i64 x.f6, .int .i64 x.f7, .bool x.f8, .int .i64 x.f9], rfl, (k36_mkM w base ok x.f4 ), ⟨[.int .i64 x.f5], [.int .i64 x.f6, .int .i64 x.f7, .bool x.f8, .int .i64 x.f9], rfl, rfl, ⟨[.int .i64 x.f6], [.int .i64 x.f7, .bool x.f8, .int .i64 x.f9], rfl, rfl, ⟨[.int .i64 x.f7], [.bool x.f8, .int .i64 x.f9], rfl, rfl, ⟨[.bool x.f8], [.int .i64 x.f9], rfl, rfl, rfl⟩⟩⟩⟩⟩⟩⟩⟩⟩
def rd_T50 (xs : List S50) (i : Int) : S50 := xs.getD i.toNat z50
theorem at_T50 {w : World} {A : Option Addr} {n : Nat} {xs : List S50} (h : Kd.C k50 w A n xs) (i : Int) (h0 : 0 ≤ i) (h1 : i < n) : ∃ ad , A = some ad ∧ w.cell? (ad.add (i.toNat * 12)) = some (.int .i64 (rd_T50 xs i).f0) ∧ w.cell? ⟨(ad.add (i.toNat * 12)).block, (ad.add (i.toNat * 12)).off + 1, none⟩ = some (.int .i64 (rd_T50 xs i).f1) ∧ w.cell? ⟨(ad.add (i.toNat * 12)).block, (ad.add (i.toNat * 12)).off + 2, none⟩ = some (.int .i64 (rd_T50 xs i).f2) ∧ w.cell? ⟨(ad.add (i.toNat * 12)).block, (ad.add (i.toNat * 12)).off + 3, none⟩ = some (.int .i64 (rd_T50 xs i).f3.f0) ∧ w.cell? ⟨(ad.add (i.toNat * 12)).block, (ad.add (i.toNat * 12)).off + 4, none⟩ = some (.int .i64 (rd_T50 xs i).f3.f1) ∧ w.cell? ⟨(ad.add (i.toNat * 12)).block, (ad.add (i.toNat * 12)).off + 5, none⟩ = some (.int .i64 (rd_T50 xs i).f4.f0) ∧ w.cell? ⟨(ad.add (i.toNat * 12)).block, (ad.add (i.toNat * 12)).off + 6, none⟩ = some (.int .i64 (rd_T50 xs i).f4.f1) ∧ w.cell? ⟨(ad.add (i.toNat * 12)).block, (ad.add (i.toNat * 12)).off + 7, none⟩ = some (.int .i64 (rd_T50 xs i).f5) ∧ w.cell? ⟨(ad.add (i.toNat * 12)).block, (ad.add (i.toNat * 12)).off + 8, none⟩ = some (.int .i64 (rd_T50 xs i).f6) ∧ w.cell? ⟨(ad.add (i.toNat * 12)).block, (ad.add (i.toNat * 12)).off + 9, none⟩ = some (.int .i64 (rd_T50 xs i).f7) ∧ w.cell? ⟨(ad.add (i.toNat * 12)).block, (ad.add (i.toNat * 12)).off + 10, none⟩ = some (.bool (rd_T50 xs i).f8) ∧ w.cell? ⟨(ad.add (i.toNat * 12)).block, (ad.add (i.toNat * 12)).off + 11, none⟩ = some (.int .i64 (rd_T50 xs i).f9) := by
 obtain ⟨ad, c, e, _, hK, hc0⟩ := Kd.C_get h z50 i h0 h1
 have hc : ∀ j u, c[j]? = some u → w.cell? (ad.add (i.toNat * 12 + j)) = some u := hc0
 obtain rfl := k50_open hK
 exact ⟨ad, e, hc 0 _ rfl, by rw [← add_field _ _ 1 (by omega)]; exact hc 1 _ rfl, by rw [← add_field _ _ 2 (by omega)]; exact hc 2 _ rfl, by rw [← add_field _ _ 3 (by omega)]; exact hc 3 _ rfl, by rw [← add_field _ _ 4 (by omega)]; exact hc 4 _ rfl, by rw [← add_field _ _ 5 (by omega)]; exact hc 5 _ rfl, by rw [← add_field _ _ 6 (by omega)]; exact hc 6 _ rfl, by rw [← add_field _ _ 7 (by omega)]; exact hc 7 _ rfl, by rw [← add_field _ _ 8 (by omega)]; exact hc 8 _ rfl, by rw [← add_field _ _ 9 (by omega)]; exact hc 9 _ rfl, by rw [← add_field _ _ 10 (by omega)]; exact hc 10 _ rfl, by rw [← add_field _ _ 11 (by omega)]; exact hc 11 _ rfl⟩
structure S127 where
 f0 : S36
 f1 : Int
 f2 : Int
def z127 : S127 := ⟨z36, (0 : Int), (0 : Int)⟩
def k127 : Kd S127 := Kd.iso (Kd.pair k36 (Kd.pair (Kd.int .i64) (Kd.int .i64))) (fun x : S127 => (x.f0, x.f1, x.f2))
theorem k127_open {w : World} {x : S127} {cs : List Value} (h : k127.K w x cs) : cs = [.int .i64 x.f0.f0, .int .i64 x.f0.f1, .int .i64 x.f1, .int .i64 x.f2] := by
 obtain ⟨_, _, rfl, s0, ⟨_, _, rfl, rfl, rfl⟩⟩ := h
 obtain rfl := k36_open s0
 exact rfl
theorem k127_openM {w : World} {base : Nat} {ok : Nat → Prop} {x : S127} {cs : List Value} (h : k127.M w base ok x cs) : cs = [.int .i64 x.f0.f0, .int .i64 x.f0.f1, .int .i64 x.f1, .int .i64 x.f2] := by
 obtain ⟨_, _, rfl, s0, ⟨_, _, rfl, rfl, rfl⟩⟩ := h
 obtain rfl := k36_openM s0
 exact rfl
theorem k127_mkM (w : World) (base : Nat) (ok : Nat → Prop) (x : S127)  : k127.M w base ok x [.int .i64 x.f0.f0, .int .i64 x.f0.f1, .int .i64 x.f1, .int .i64 x.f2] := ⟨[.int .i64 x.f0.f0, .int .i64 x.f0.f1], [.int .i64 x.f1, .int .i64 x.f2], rfl, (k36_mkM w base ok x.f0 ), ⟨[.int .i64 x.f1], [.int .i64 x.f2], rfl, rfl, rfl⟩⟩
def rd_T127 (xs : List S127) (i : Int) : S127 := xs.getD i.toNat z127
theorem at_T127 {w : World} {A : Option Addr} {n : Nat} {xs : List S127} (h : Kd.C k127 w A n xs) (i : Int) (h0 : 0 ≤ i) (h1 : i < n) : ∃ ad , A = some ad ∧ w.cell? (ad.add (i.toNat * 4)) = some (.int .i64 (rd_T127 xs i).f0.f0) ∧ w.cell? ⟨(ad.add (i.toNat * 4)).block, (ad.add (i.toNat * 4)).off + 1, none⟩ = some (.int .i64 (rd_T127 xs i).f0.f1) ∧ w.cell? ⟨(ad.add (i.toNat * 4)).block, (ad.add (i.toNat * 4)).off + 2, none⟩ = some (.int .i64 (rd_T127 xs i).f1) ∧ w.cell? ⟨(ad.add (i.toNat * 4)).block, (ad.add (i.toNat * 4)).off + 3, none⟩ = some (.int .i64 (rd_T127 xs i).f2) := by
 obtain ⟨ad, c, e, _, hK, hc0⟩ := Kd.C_get h z127 i h0 h1
 have hc : ∀ j u, c[j]? = some u → w.cell? (ad.add (i.toNat * 4 + j)) = some u := hc0
 obtain rfl := k127_open hK
 exact ⟨ad, e, hc 0 _ rfl, by rw [← add_field _ _ 1 (by omega)]; exact hc 1 _ rfl, by rw [← add_field _ _ 2 (by omega)]; exact hc 2 _ rfl, by rw [← add_field _ _ 3 (by omega)]; exact hc 3 _ rfl⟩
structure S66 where
 f0 : S50
 f1 : Int
 f2 : Bool
 f3 : S50
def z66 : S66 := ⟨z50, (0 : Int), false, z50⟩
def k66 : Kd S66 := Kd.iso (Kd.pair k50 (Kd.pair (Kd.int .i64) (Kd.pair Kd.bool k50))) (fun x : S66 => (x.f0, x.f1, x.f2, x.f3))
theorem k66_open {w : World} {x : S66} {cs : List Value} (h : k66.K w x cs) : cs = [.int .i64 x.f0.f0, .int .i64 x.f0.f1, .int .i64 x.f0.f2, .int .i64 x.f0.f3.f0, .int .i64 x.f0.f3.f1, .int .i64 x.f0.f4.f0, .int .i64 x.f0.f4.f1, .int .i64 x.f0.f5, .int .i64 x.f0.f6, .int .i64 x.f0.f7, .bool x.f0.f8, .int .i64 x.f0.f9, .int .i64 x.f1, .bool x.f2, .int .i64 x.f3.f0, .int .i64 x.f3.f1, .int .i64 x.f3.f2, .int .i64 x.f3.f3.f0, .int .i64 x.f3.f3.f1, .int .i64 x.f3.f4.f0, .int .i64 x.f3.f4.f1, .int .i64 x.f3.f5, .int .i64 x.f3.f6, .int .i64 x.f3.f7, .bool x.f3.f8, .int .i64 x.f3.f9] := by
 obtain ⟨_, _, rfl, s0, ⟨_, _, rfl, rfl, ⟨_, _, rfl, rfl, s14⟩⟩⟩ := h
 obtain rfl := k50_open s0
 obtain rfl := k50_open s14
 exact rfl
theorem k66_openM {w : World} {base : Nat} {ok : Nat → Prop} {x : S66} {cs : List Value} (h : k66.M w base ok x cs) : cs = [.int .i64 x.f0.f0, .int .i64 x.f0.f1, .int .i64 x.f0.f2, .int .i64 x.f0.f3.f0, .int .i64 x.f0.f3.f1, .int .i64 x.f0.f4.f0, .int .i64 x.f0.f4.f1, .int .i64 x.f0.f5, .int .i64 x.f0.f6, .int .i64 x.f0.f7, .bool x.f0.f8, .int .i64 x.f0.f9, .int .i64 x.f1, .bool x.f2, .int .i64 x.f3.f0, .int .i64 x.f3.f1, .int .i64 x.f3.f2, .int .i64 x.f3.f3.f0, .int .i64 x.f3.f3.f1, .int .i64 x.f3.f4.f0, .int .i64 x.f3.f4.f1, .int .i64 x.f3.f5, .int .i64 x.f3.f6, .int .i64 x.f3.f7, .bool x.f3.f8, .int .i64 x.f3.f9] := by
 obtain ⟨_, _, rfl, s0, ⟨_, _, rfl, rfl, ⟨_, _, rfl, rfl, s14⟩⟩⟩ := h
 obtain rfl := k50_openM s0
 obtain rfl := k50_openM s14
 exact rfl
theorem k66_mkM (w : World) (base : Nat) (ok : Nat → Prop) (x : S66)  : k66.M w base ok x [.int .i64 x.f0.f0, .int .i64 x.f0.f1, .int .i64 x.f0.f2, .int .i64 x.f0.f3.f0, .int .i64 x.f0.f3.f1, .int .i64 x.f0.f4.f0, .int .i64 x.f0.f4.f1, .int .i64 x.f0.f5, .int .i64 x.f0.f6, .int .i64 x.f0.f7, .bool x.f0.f8, .int .i64 x.f0.f9, .int .i64 x.f1, .bool x.f2, .int .i64 x.f3.f0, .int .i64 x.f3.f1, .int .i64 x.f3.f2, .int .i64 x.f3.f3.f0, .int .i64 x.f3.f3.f1, .int .i64 x.f3.f4.f0, .int .i64 x.f3.f4.f1, .int .i64 x.f3.f5, .int .i64 x.f3.f6, .int .i64 x.f3.f7, .bool x.f3.f8, .int .i64 x.f3.f9] := ⟨[.int .i64 x.f0.f0, .int .i64 x.f0.f1, .int .i64 x.f0.f2, .int .i64 x.f0.f3.f0, .int .i64 x.f0.f3.f1, .int .i64 x.f0.f4.f0, .int .i64 x.f0.f4.f1, .int .i64 x.f0.f5, .int .i64 x.f0.f6, .int .i64 x.f0.f7, .bool x.f0.f8, .int .i64 x.f0.f9], [.int .i64 x.f1, .bool x.f2, .int .i64 x.f3.f0, .int .i64 x.f3.f1, .int .i64 x.f3.f2, .int .i64 x.f3.f3.f0, .int .i64 x.f3.f3.f1, .int .i64 x.f3.f4.f0, .int .i64 x.f3.f4.f1, .int .i64 x.f3.f5, .int .i64 x.f3.f6, .int .i64 x.f3.f7, .bool x.f3.f8, .int .i64 x.f3.f9], rfl, (k50_mkM w base ok x.f0 ), ⟨[.int .i64 x.f1], [.bool x.f2, .int .i64 x.f3.f0, .int .i64 x.f3.f1, .int .i64 x.f3.f2, .int .i64 x.f3.f3.f0, .int .i64 x.f3.f3.f1, .int .i64 x.f3.f4.f0, .int .i64 x.f3.f4.f1, .int .i64 x.f3.f5, .int .i64 x.f3.f6, .int .i64 x.f3.f7, .bool x.f3.f8, .int .i64 x.f3.f9], rfl, rfl, ⟨[.bool x.f2], [.int .i64 x.f3.f0, .int .i64 x.f3.f1, .int .i64 x.f3.f2, .int .i64 x.f3.f3.f0, .int .i64 x.f3.f3.f1, .int .i64 x.f3.f4.f0, .int .i64 x.f3.f4.f1, .int .i64 x.f3.f5, .int .i64 x.f3.f6, .int .i64 x.f3.f7, .bool x.f3.f8, .int .i64 x.f3.f9], rfl, rfl, (k50_mkM w base ok x.f3 )⟩⟩⟩
def rd_T66 (xs : List S66) (i : Int) : S66 := xs.getD i.toNat z66
theorem at_T66 {w : World} {A : Option Addr} {n : Nat} {xs : List S66} (h : Kd.C k66 w A n xs) (i : Int) (h0 : 0 ≤ i) (h1 : i < n) : ∃ ad , A = some ad ∧ w.cell? (ad.add (i.toNat * 26)) = some (.int .i64 (rd_T66 xs i).f0.f0) ∧ w.cell? ⟨(ad.add (i.toNat * 26)).block, (ad.add (i.toNat * 26)).off + 1, none⟩ = some (.int .i64 (rd_T66 xs i).f0.f1) ∧ w.cell? ⟨(ad.add (i.toNat * 26)).block, (ad.add (i.toNat * 26)).off + 2, none⟩ = some (.int .i64 (rd_T66 xs i).f0.f2) ∧ w.cell? ⟨(ad.add (i.toNat * 26)).block, (ad.add (i.toNat * 26)).off + 3, none⟩ = some (.int .i64 (rd_T66 xs i).f0.f3.f0) ∧ w.cell? ⟨(ad.add (i.toNat * 26)).block, (ad.add (i.toNat * 26)).off + 4, none⟩ = some (.int .i64 (rd_T66 xs i).f0.f3.f1) ∧ w.cell? ⟨(ad.add (i.toNat * 26)).block, (ad.add (i.toNat * 26)).off + 5, none⟩ = some (.int .i64 (rd_T66 xs i).f0.f4.f0) ∧ w.cell? ⟨(ad.add (i.toNat * 26)).block, (ad.add (i.toNat * 26)).off + 6, none⟩ = some (.int .i64 (rd_T66 xs i).f0.f4.f1) ∧ w.cell? ⟨(ad.add (i.toNat * 26)).block, (ad.add (i.toNat * 26)).off + 7, none⟩ = some (.int .i64 (rd_T66 xs i).f0.f5) ∧ w.cell? ⟨(ad.add (i.toNat * 26)).block, (ad.add (i.toNat * 26)).off + 8, none⟩ = some (.int .i64 (rd_T66 xs i).f0.f6) ∧ w.cell? ⟨(ad.add (i.toNat * 26)).block, (ad.add (i.toNat * 26)).off + 9, none⟩ = some (.int .i64 (rd_T66 xs i).f0.f7) ∧ w.cell? ⟨(ad.add (i.toNat * 26)).block, (ad.add (i.toNat * 26)).off + 10, none⟩ = some (.bool (rd_T66 xs i).f0.f8) ∧ w.cell? ⟨(ad.add (i.toNat * 26)).block, (ad.add (i.toNat * 26)).off + 11, none⟩ = some (.int .i64 (rd_T66 xs i).f0.f9) ∧ w.cell? ⟨(ad.add (i.toNat * 26)).block, (ad.add (i.toNat * 26)).off + 12, none⟩ = some (.int .i64 (rd_T66 xs i).f1) ∧ w.cell? ⟨(ad.add (i.toNat * 26)).block, (ad.add (i.toNat * 26)).off + 13, none⟩ = some (.bool (rd_T66 xs i).f2) ∧ w.cell? ⟨(ad.add (i.toNat * 26)).block, (ad.add (i.toNat * 26)).off + 14, none⟩ = some (.int .i64 (rd_T66 xs i).f3.f0) ∧ w.cell? ⟨(ad.add (i.toNat * 26)).block, (ad.add (i.toNat * 26)).off + 15, none⟩ = some (.int .i64 (rd_T66 xs i).f3.f1) ∧ w.cell? ⟨(ad.add (i.toNat * 26)).block, (ad.add (i.toNat * 26)).off + 16, none⟩ = some (.int .i64 (rd_T66 xs i).f3.f2) ∧ w.cell? ⟨(ad.add (i.toNat * 26)).block, (ad.add (i.toNat * 26)).off + 17, none⟩ = some (.int .i64 (rd_T66 xs i).f3.f3.f0) ∧ w.cell? ⟨(ad.add (i.toNat * 26)).block, (ad.add (i.toNat * 26)).off + 18, none⟩ = some (.int .i64 (rd_T66 xs i).f3.f3.f1) ∧ w.cell? ⟨(ad.add (i.toNat * 26)).block, (ad.add (i.toNat * 26)).off + 19, none⟩ = some (.int .i64 (rd_T66 xs i).f3.f4.f0) ∧ w.cell? ⟨(ad.add (i.toNat * 26)).block, (ad.add (i.toNat * 26)).off + 20, none⟩ = some (.int .i64 (rd_T66 xs i).f3.f4.f1) ∧ w.cell? ⟨(ad.add (i.toNat * 26)).block, (ad.add (i.toNat * 26)).off + 21, none⟩ = some (.int .i64 (rd_T66 xs i).f3.f5) ∧ w.cell? ⟨(ad.add (i.toNat * 26)).block, (ad.add (i.toNat * 26)).off + 22, none⟩ = some (.int .i64 (rd_T66 xs i).f3.f6) ∧ w.cell? ⟨(ad.add (i.toNat * 26)).block, (ad.add (i.toNat * 26)).off + 23, none⟩ = some (.int .i64 (rd_T66 xs i).f3.f7) ∧ w.cell? ⟨(ad.add (i.toNat * 26)).block, (ad.add (i.toNat * 26)).off + 24, none⟩ = some (.bool (rd_T66 xs i).f3.f8) ∧ w.cell? ⟨(ad.add (i.toNat * 26)).block, (ad.add (i.toNat * 26)).off + 25, none⟩ = some (.int .i64 (rd_T66 xs i).f3.f9) := by
 obtain ⟨ad, c, e, _, hK, hc0⟩ := Kd.C_get h z66 i h0 h1
 have hc : ∀ j u, c[j]? = some u → w.cell? (ad.add (i.toNat * 26 + j)) = some u := hc0
 obtain rfl := k66_open hK
 exact ⟨ad, e, hc 0 _ rfl, by rw [← add_field _ _ 1 (by omega)]; exact hc 1 _ rfl, by rw [← add_field _ _ 2 (by omega)]; exact hc 2 _ rfl, by rw [← add_field _ _ 3 (by omega)]; exact hc 3 _ rfl, by rw [← add_field _ _ 4 (by omega)]; exact hc 4 _ rfl, by rw [← add_field _ _ 5 (by omega)]; exact hc 5 _ rfl, by rw [← add_field _ _ 6 (by omega)]; exact hc 6 _ rfl, by rw [← add_field _ _ 7 (by omega)]; exact hc 7 _ rfl, by rw [← add_field _ _ 8 (by omega)]; exact hc 8 _ rfl, by rw [← add_field _ _ 9 (by omega)]; exact hc 9 _ rfl, by rw [← add_field _ _ 10 (by omega)]; exact hc 10 _ rfl, by rw [← add_field _ _ 11 (by omega)]; exact hc 11 _ rfl, by rw [← add_field _ _ 12 (by omega)]; exact hc 12 _ rfl, by rw [← add_field _ _ 13 (by omega)]; exact hc 13 _ rfl, by rw [← add_field _ _ 14 (by omega)]; exact hc 14 _ rfl, by rw [← add_field _ _ 15 (by omega)]; exact hc 15 _ rfl, by rw [← add_field _ _ 16 (by omega)]; exact hc 16 _ rfl, by rw [← add_field _ _ 17 (by omega)]; exact hc 17 _ rfl, by rw [← add_field _ _ 18 (by omega)]; exact hc 18 _ rfl, by rw [← add_field _ _ 19 (by omega)]; exact hc 19 _ rfl, by rw [← add_field _ _ 20 (by omega)]; exact hc 20 _ rfl, by rw [← add_field _ _ 21 (by omega)]; exact hc 21 _ rfl, by rw [← add_field _ _ 22 (by omega)]; exact hc 22 _ rfl, by rw [← add_field _ _ 23 (by omega)]; exact hc 23 _ rfl, by rw [← add_field _ _ 24 (by omega)]; exact hc 24 _ rfl, by rw [← add_field _ _ 25 (by omega)]; exact hc 25 _ rfl⟩
end Go.Proofs.Ythniclbmpeklmaa.KJf
end
section
namespace Go.Proofs.Ythniclbmpeklmaa.KJf
open Go.RowKit Go.Proofs.YthniclbmpeklmaaW.PrintWords Go.Proofs.YthniclbmpeklmaaW.PrintLast Go.Proofs.YthniclbmpeklmaaW.PrintMore
attribute [local go_sem] max2_int min2_int max_two min_two max_three min_three max_four min_four   -- for this text's walks alone
set_option linter.unusedVariables false
set_option linter.unusedSimpArgs false
theorem eqA36 (d : Nat) (w : World) (x0 y0 : Int) (x1 y1 : Int) :
  (Op.equalIn (d + 2) 36 (.agg #[.int .i64 x0, .int .i64 x1]) (.agg #[.int .i64 y0, .int .i64 y1])).run Try.prog w = .ok (x0 == y0 && (x1 == y1)) w := by
 refine eqA_of Try.underlying36 (by kernel_rfl) ?_
 refine eqf_cons (by rfl) (by go_simp; rfl) (by go_simp; rfl) (by go_simp) ?_
 exact eqf_last (by rfl) (by go_simp; rfl) (by go_simp; rfl) (by go_simp)
end Go.Proofs.Ythniclbmpeklmaa.KJf
end
section
set_option maxHeartbeats 8000000
set_option maxRecDepth 100000
namespace Go.Proofs.Ythniclbmpeklmaa.KJf
open Go.RowKit Go.Proofs.YthniclbmpeklmaaW.PrintWords Go.Proofs.YthniclbmpeklmaaW.PrintLast Go.Proofs.YthniclbmpeklmaaW.PrintMore
attribute [local go_sem] max2_int min2_int max_two min_two max_three min_three max_four min_four   -- for this text's walks alone
set_option linter.unusedVariables false
set_option linter.unusedSimpArgs false
attribute [local go_sem high] eqA36
def knelllaw11_Of.f (a0_0 : Int) (a0_1 : Int) (a0_2 : Int) (a0_3 : Int) (a0_4 : Int) (a0_5 : Int) (a0_6 : Int) (a0_7 : Int) (a0_8 : Int) (a0_9 : Int) (a0_10 : Bool) (a0_11 : Int) : Option (Int × Int × Int × Int × Int × Int × Int × Int × Int × Int × Bool × Int) := some (a0_0, a0_1, a0_2, a0_3, a0_4, a0_5, a0_6, a0_7, a0_8, a0_9, a0_10, a0_11)
theorem knelllaw11_Of.calls (a0_0 : Int) (a0_1 : Int) (a0_2 : Int) (a0_3 : Int) (a0_4 : Int) (a0_5 : Int) (a0_6 : Int) (a0_7 : Int) (a0_8 : Int) (a0_9 : Int) (a0_10 : Bool) (a0_11 : Int) (r1 : Int) (r2 : Int) (r3 : Int) (r4 : Int) (r5 : Int) (r6 : Int) (r7 : Int) (r8 : Int) (r9 : Int) (r10 : Int) (r11 : Bool) (r12 : Int) (w : World) (h : knelllaw11_Of.f a0_0 a0_1 a0_2 a0_3 a0_4 a0_5 a0_6 a0_7 a0_8 a0_9 a0_10 a0_11 = some (r1, r2, r3, r4, r5, r6, r7, r8, r9, r10, r11, r12)) :
  Calls Try.prog 30 #[.agg #[.int .i64 a0_0, .int .i64 a0_1, .int .i64 a0_2, .int .i64 a0_3, .int .i64 a0_4, .int .i64 a0_5, .int .i64 a0_6, .int .i64 a0_7, .int .i64 a0_8, .int .i64 a0_9, .bool a0_10, .int .i64 a0_11]] w fun e w' => e = .returned (.agg #[.int .i64 r1, .int .i64 r2, .int .i64 r3, .int .i64 r4, .int .i64 r5, .int .i64 r6, .int .i64 r7, .int .i64 r8, .int .i64 r9, .int .i64 r10, .bool r11, .int .i64 r12]) ∧ Below w.heap.size w w' := by
 have hu50 := Try.underlying50
 have hu54 := Try.underlying54
 have hu34 := Try.underlying34
 have HB := Aside0.mk (Below.refl w.heap.size w)
 have H : (some (a0_0, a0_1, a0_2, a0_3, a0_4, a0_5, a0_6, a0_7, a0_8, a0_9, a0_10, a0_11)) = some (r1, r2, r3, r4, r5, r6, r7, r8, r9, r10, r11, r12) := h
 clear h
 simp only [Option.some.injEq, Prod.mk.injEq] at H
 obtain ⟨rfl, rfl, rfl, rfl, rfl, rfl, rfl, rfl, rfl, rfl, rfl, rfl⟩ := H
 go_enter Try.func30, Try.ntmps30
 go_wp2_with (first | ((with_reducible refine gate_dst (N := 1) rfl ?_); refine box_event ?hg (N := 1) ?hd (cs := #[.int .i64 a0_0, .int .i64 a0_1, .int .i64 a0_2, .int .i64 a0_3, .int .i64 a0_4, .int .i64 a0_5, .int .i64 a0_6, .int .i64 a0_7, .int .i64 a0_8, .int .i64 a0_9, .bool a0_10, .int .i64 a0_11]) (t := 50) ?hr ?_; (case hd => rfl); (case hg => rfl); (case hr => first | (go_simp; done) | (go_simp; rfl)); intro gb101 hg w2 hbox hb; have n0_ := Aside0.mk (below_step (by repeat (first | (with_reducible first | exact HB.out | apply below_alloc | apply pw_below_drewN | apply below_drew1) | exact HB.out)) hb); have n1_ := Aside0.mk (hbox); have n2_ := Aside0.mk ((by rw [hg]; exact (below_size (by repeat (first | (with_reducible first | exact HB.out | apply below_alloc | apply pw_below_drewN | apply below_drew1) | exact HB.out))) : w.heap.size ≤ gb101)); have n3_ := Aside0.mk ((by rw [hg]; exact (below_size (by repeat (first | (with_reducible first | exact HB.out | apply below_alloc | apply pw_below_drewN | apply below_drew1) | exact HB.out))) : w.heap.size ≤ gb101)); clear HB; have HB := n0_; have BK101 := n1_; have GW101 := n2_; have GE101 := n3_; clear n0_ n1_ n2_ n3_; clear hb hbox hg) | ((with_reducible refine gate_dst (N := 2) rfl ?_); refine box_event ?hg (N := 2) ?hd (cs := #[.int .i64 0, .int .i64 0, .int .i64 0, .int .i64 0, .int .i64 0, .int .i64 0, .int .i64 0, .int .i64 0, .int .i64 0, .int .i64 0, .bool false, .int .i64 0]) (t := 54) ?hr ?_; (case hd => rfl); (case hg => rfl); (case hr => first | (go_simp; done) | (go_simp; rfl)); intro gb102 hg w3 hbox hb; have n0_ := Aside0.mk (blk_below (g := gb101) (o := .cells #[.int .i64 a0_0, .int .i64 a0_1, .int .i64 a0_2, .int .i64 a0_3, .int .i64 a0_4, .int .i64 a0_5, .int .i64 a0_6, .int .i64 a0_7, .int .i64 a0_8, .int .i64 a0_9, .bool a0_10, .int .i64 a0_11] 50 (0, 0)) (by (with_reducible repeat (first | refine blk_drewN ?_ _ | refine blk_drew ?_ | refine blk_alloc ?_ _)); exact BK101.out) hb); have n1_ := Aside0.mk (below_step (by repeat (first | (with_reducible first | exact HB.out | apply below_alloc | apply pw_below_drewN | apply below_drew1 | refine below_set ?_ GE101.out) | exact HB.out)) hb); have n2_ := Aside0.mk (hbox); have n3_ := Aside0.mk ((by rw [hg]; exact (below_size (by repeat (first | (with_reducible first | exact HB.out | apply below_alloc | apply pw_below_drewN | apply below_drew1 | refine below_set ?_ GE101.out) | exact HB.out))) : w.heap.size ≤ gb102)); have n4_ := Aside0.mk ((by rw [hg]; exact (below_size (by repeat (first | (with_reducible first | exact HB.out | apply below_alloc | apply pw_below_drewN | apply below_drew1 | refine below_set ?_ GE101.out) | exact HB.out))) : w.heap.size ≤ gb102)); have n5_ := Aside0.mk ((by rw [hg]; exact Nat.ne_of_lt (blk_lt (g := gb101) (o := .cells #[.int .i64 a0_0, .int .i64 a0_1, .int .i64 a0_2, .int .i64 a0_3, .int .i64 a0_4, .int .i64 a0_5, .int .i64 a0_6, .int .i64 a0_7, .int .i64 a0_8, .int .i64 a0_9, .bool a0_10, .int .i64 a0_11] 50 (0, 0)) (by (with_reducible repeat (first | refine blk_drewN ?_ _ | refine blk_drew ?_ | refine blk_alloc ?_ _)); exact BK101.out)) : gb101 ≠ gb102)); have n6_ := Aside0.mk ((by rw [hg]; exact Nat.ne_of_gt (blk_lt (g := gb101) (o := .cells #[.int .i64 a0_0, .int .i64 a0_1, .int .i64 a0_2, .int .i64 a0_3, .int .i64 a0_4, .int .i64 a0_5, .int .i64 a0_6, .int .i64 a0_7, .int .i64 a0_8, .int .i64 a0_9, .bool a0_10, .int .i64 a0_11] 50 (0, 0)) (by (with_reducible repeat (first | refine blk_drewN ?_ _ | refine blk_drew ?_ | refine blk_alloc ?_ _)); exact BK101.out)) : gb102 ≠ gb101)); clear BK101; clear HB; have BK101 := n0_; have HB := n1_; have BK102 := n2_; have GW102 := n3_; have GE102 := n4_; have NB101_102 := n5_; have NB102_101 := n6_; clear n0_ n1_ n2_ n3_ n4_ n5_ n6_; clear hb hbox hg; have hnb4 := NB101_102.out; have hnc4 := NB102_101.out; have hcz5_0 : w3.cell? ⟨gb101, 0, none⟩ = some (.int .i64 a0_0) := (blk_cell BK101.out 0).trans rfl; have hcz5_1 : w3.cell? ⟨gb101, 1, none⟩ = some (.int .i64 a0_1) := (blk_cell BK101.out 1).trans rfl; have hcz5_2 : w3.cell? ⟨gb101, 2, none⟩ = some (.int .i64 a0_2) := (blk_cell BK101.out 2).trans rfl; have hcz5_3 : w3.cell? ⟨gb101, 3, none⟩ = some (.int .i64 a0_3) := (blk_cell BK101.out 3).trans rfl; have hcz5_4 : w3.cell? ⟨gb101, 4, none⟩ = some (.int .i64 a0_4) := (blk_cell BK101.out 4).trans rfl; have hcz5_5 : w3.cell? ⟨gb101, 5, none⟩ = some (.int .i64 a0_5) := (blk_cell BK101.out 5).trans rfl; have hcz5_6 : w3.cell? ⟨gb101, 6, none⟩ = some (.int .i64 a0_6) := (blk_cell BK101.out 6).trans rfl; have hcz5_7 : w3.cell? ⟨gb101, 7, none⟩ = some (.int .i64 a0_7) := (blk_cell BK101.out 7).trans rfl; have hcz5_8 : w3.cell? ⟨gb101, 8, none⟩ = some (.int .i64 a0_8) := (blk_cell BK101.out 8).trans rfl; have hcz5_9 : w3.cell? ⟨gb101, 9, none⟩ = some (.int .i64 a0_9) := (blk_cell BK101.out 9).trans rfl; have hcz5_10 : w3.cell? ⟨gb101, 10, none⟩ = some (.bool a0_10) := (blk_cell BK101.out 10).trans rfl; have hcz5_11 : w3.cell? ⟨gb101, 11, none⟩ = some (.int .i64 a0_11) := (blk_cell BK101.out 11).trans rfl; have hfz5_0 := blk_frozen BK101.out 0; have hfz5_1 := blk_frozen BK101.out 1; have hfz5_2 := blk_frozen BK101.out 2; have hfz5_3 := blk_frozen BK101.out 3; have hfz5_4 := blk_frozen BK101.out 4; have hfz5_5 := blk_frozen BK101.out 5; have hfz5_6 := blk_frozen BK101.out 6; have hfz5_7 := blk_frozen BK101.out 7; have hfz5_8 := blk_frozen BK101.out 8; have hfz5_9 := blk_frozen BK101.out 9; have hfz5_10 := blk_frozen BK101.out 10; have hfz5_11 := blk_frozen BK101.out 11; have hcz6_0 : w3.cell? ⟨gb102, 0, none⟩ = some (.int .i64 0) := (blk_cell BK102.out 0).trans rfl; have hcz6_1 : w3.cell? ⟨gb102, 1, none⟩ = some (.int .i64 0) := (blk_cell BK102.out 1).trans rfl; have hcz6_2 : w3.cell? ⟨gb102, 2, none⟩ = some (.int .i64 0) := (blk_cell BK102.out 2).trans rfl; have hcz6_3 : w3.cell? ⟨gb102, 3, none⟩ = some (.int .i64 0) := (blk_cell BK102.out 3).trans rfl; have hcz6_4 : w3.cell? ⟨gb102, 4, none⟩ = some (.int .i64 0) := (blk_cell BK102.out 4).trans rfl; have hcz6_5 : w3.cell? ⟨gb102, 5, none⟩ = some (.int .i64 0) := (blk_cell BK102.out 5).trans rfl; have hcz6_6 : w3.cell? ⟨gb102, 6, none⟩ = some (.int .i64 0) := (blk_cell BK102.out 6).trans rfl; have hcz6_7 : w3.cell? ⟨gb102, 7, none⟩ = some (.int .i64 0) := (blk_cell BK102.out 7).trans rfl; have hcz6_8 : w3.cell? ⟨gb102, 8, none⟩ = some (.int .i64 0) := (blk_cell BK102.out 8).trans rfl; have hcz6_9 : w3.cell? ⟨gb102, 9, none⟩ = some (.int .i64 0) := (blk_cell BK102.out 9).trans rfl; have hcz6_10 : w3.cell? ⟨gb102, 10, none⟩ = some (.bool false) := (blk_cell BK102.out 10).trans rfl; have hcz6_11 : w3.cell? ⟨gb102, 11, none⟩ = some (.int .i64 0) := (blk_cell BK102.out 11).trans rfl; have hfz6_0 := blk_frozen BK102.out 0; have hfz6_1 := blk_frozen BK102.out 1; have hfz6_2 := blk_frozen BK102.out 2; have hfz6_3 := blk_frozen BK102.out 3; have hfz6_4 := blk_frozen BK102.out 4; have hfz6_5 := blk_frozen BK102.out 5; have hfz6_6 := blk_frozen BK102.out 6; have hfz6_7 := blk_frozen BK102.out 7; have hfz6_8 := blk_frozen BK102.out 8; have hfz6_9 := blk_frozen BK102.out 9; have hfz6_10 := blk_frozen BK102.out 10; have hfz6_11 := blk_frozen BK102.out 11))
 refine bodyPost_ret (results_cell_row rfl _ _ gb102 54 #[.int .i64 a0_0, .int .i64 a0_1, .int .i64 a0_2, .int .i64 a0_3, .int .i64 a0_4, .int .i64 a0_5, .int .i64 a0_6, .int .i64 a0_7, .int .i64 a0_8, .int .i64 a0_9, .bool a0_10, .int .i64 a0_11] (0, 0) _ rfl (by (with_reducible repeat (first | refine blk_drewN ?_ _ | refine blk_drew ?_ | refine blk_alloc ?_ _)); refine blk_put (cs := #[.int .i64 a0_0, .int .i64 a0_1, .int .i64 a0_2, .int .i64 a0_3, .int .i64 a0_4, .int .i64 a0_5, .int .i64 a0_6, .int .i64 a0_7, .int .i64 a0_8, .int .i64 a0_9, .bool a0_10, .int .i64 0]) ?_ 11 _ rfl; (with_reducible repeat (first | refine blk_drewN ?_ _ | refine blk_drew ?_ | refine blk_alloc ?_ _)); refine blk_put (cs := #[.int .i64 a0_0, .int .i64 a0_1, .int .i64 a0_2, .int .i64 a0_3, .int .i64 a0_4, .int .i64 a0_5, .int .i64 a0_6, .int .i64 a0_7, .int .i64 a0_8, .int .i64 a0_9, .bool false, .int .i64 0]) ?_ 10 _ rfl; (with_reducible repeat (first | refine blk_drewN ?_ _ | refine blk_drew ?_ | refine blk_alloc ?_ _)); refine blk_put (cs := #[.int .i64 a0_0, .int .i64 a0_1, .int .i64 a0_2, .int .i64 a0_3, .int .i64 a0_4, .int .i64 a0_5, .int .i64 a0_6, .int .i64 a0_7, .int .i64 a0_8, .int .i64 0, .bool false, .int .i64 0]) ?_ 9 _ rfl; (with_reducible repeat (first | refine blk_drewN ?_ _ | refine blk_drew ?_ | refine blk_alloc ?_ _)); refine blk_put (cs := #[.int .i64 a0_0, .int .i64 a0_1, .int .i64 a0_2, .int .i64 a0_3, .int .i64 a0_4, .int .i64 a0_5, .int .i64 a0_6, .int .i64 a0_7, .int .i64 0, .int .i64 0, .bool false, .int .i64 0]) ?_ 8 _ rfl; (with_reducible repeat (first | refine blk_drewN ?_ _ | refine blk_drew ?_ | refine blk_alloc ?_ _)); refine blk_put (cs := #[.int .i64 a0_0, .int .i64 a0_1, .int .i64 a0_2, .int .i64 a0_3, .int .i64 a0_4, .int .i64 a0_5, .int .i64 a0_6, .int .i64 0, .int .i64 0, .int .i64 0, .bool false, .int .i64 0]) ?_ 7 _ rfl; (with_reducible repeat (first | refine blk_drewN ?_ _ | refine blk_drew ?_ | refine blk_alloc ?_ _)); refine blk_put (cs := #[.int .i64 a0_0, .int .i64 a0_1, .int .i64 a0_2, .int .i64 a0_3, .int .i64 a0_4, .int .i64 a0_5, .int .i64 0, .int .i64 0, .int .i64 0, .int .i64 0, .bool false, .int .i64 0]) ?_ 6 _ rfl; (with_reducible repeat (first | refine blk_drewN ?_ _ | refine blk_drew ?_ | refine blk_alloc ?_ _)); refine blk_put (cs := #[.int .i64 a0_0, .int .i64 a0_1, .int .i64 a0_2, .int .i64 a0_3, .int .i64 a0_4, .int .i64 0, .int .i64 0, .int .i64 0, .int .i64 0, .int .i64 0, .bool false, .int .i64 0]) ?_ 5 _ rfl; (with_reducible repeat (first | refine blk_drewN ?_ _ | refine blk_drew ?_ | refine blk_alloc ?_ _)); refine blk_put (cs := #[.int .i64 a0_0, .int .i64 a0_1, .int .i64 a0_2, .int .i64 a0_3, .int .i64 0, .int .i64 0, .int .i64 0, .int .i64 0, .int .i64 0, .int .i64 0, .bool false, .int .i64 0]) ?_ 4 _ rfl; (with_reducible repeat (first | refine blk_drewN ?_ _ | refine blk_drew ?_ | refine blk_alloc ?_ _)); refine blk_put (cs := #[.int .i64 a0_0, .int .i64 a0_1, .int .i64 a0_2, .int .i64 0, .int .i64 0, .int .i64 0, .int .i64 0, .int .i64 0, .int .i64 0, .int .i64 0, .bool false, .int .i64 0]) ?_ 3 _ rfl; (with_reducible repeat (first | refine blk_drewN ?_ _ | refine blk_drew ?_ | refine blk_alloc ?_ _)); refine blk_put (cs := #[.int .i64 a0_0, .int .i64 a0_1, .int .i64 0, .int .i64 0, .int .i64 0, .int .i64 0, .int .i64 0, .int .i64 0, .int .i64 0, .int .i64 0, .bool false, .int .i64 0]) ?_ 2 _ rfl; (with_reducible repeat (first | refine blk_drewN ?_ _ | refine blk_drew ?_ | refine blk_alloc ?_ _)); refine blk_put (cs := #[.int .i64 a0_0, .int .i64 0, .int .i64 0, .int .i64 0, .int .i64 0, .int .i64 0, .int .i64 0, .int .i64 0, .int .i64 0, .int .i64 0, .bool false, .int .i64 0]) ?_ 1 _ rfl; (with_reducible repeat (first | refine blk_drewN ?_ _ | refine blk_drew ?_ | refine blk_alloc ?_ _)); refine blk_put (cs := #[.int .i64 0, .int .i64 0, .int .i64 0, .int .i64 0, .int .i64 0, .int .i64 0, .int .i64 0, .int .i64 0, .int .i64 0, .int .i64 0, .bool false, .int .i64 0]) ?_ 0 _ rfl; (with_reducible repeat (first | refine blk_drewN ?_ _ | refine blk_drew ?_ | refine blk_alloc ?_ _)); exact BK102.out) Try.underlying54 rfl (by kernel_rfl)) rfl ?_
 exact ⟨by first | rfl | (simp [errW_none, errW_some] <;> rfl) | (simp [*, errW_none, errW_some] <;> rfl), by repeat (first | (with_reducible first | exact HB.out | apply below_alloc | apply pw_below_drewN | apply below_drew1 | refine below_set ?_ GE101.out | refine below_set ?_ GE102.out) | exact HB.out)⟩
def knellref13_New.f (a0 : Int) : Option (Int × (List (S127)) × (List (S66)) × Int) := if a0 < 1 then (some (0, ([] : List (S127)), ([] : List (S66)), 1)) else (if a0 > 64 then (some (0, ([] : List (S127)), ([] : List (S66)), 1)) else (if 0 ≤ a0 then (if (a0 : Int).toNat ≤ 1353245080339 then (some (0, ([] : List (S127)), (List.replicate (a0 : Int).toNat z66), 0)) else (none)) else (none)))
theorem knellref13_New.calls (a0 : Int) (r1 : Int) (r2 : List (S127)) (r3 : List (S66)) (r4 : Int) (w : World) (h : knellref13_New.f a0 = some (r1, r2, r3, r4)) :
  Calls Try.prog 27 #[.int .i64 a0] w fun e w' => ∃ v1_ v2_ : Value, e = .returned (.tuple #[.agg #[.int .i64 r1, v1_, v2_], .int .i64 r4]) ∧ Kd.R k127 127 w' w.heap.size (fun _ => True) v1_ r2 ∧ Kd.R k66 66 w' w.heap.size (fun _ => True) v2_ r3 ∧ Below w.heap.size w w' := by
 have hu46 := Try.underlying46
 have HB := Aside0.mk (Below.refl w.heap.size w)
 have H : (if a0 < 1 then (some (0, ([] : List (S127)), ([] : List (S66)), 1)) else (if a0 > 64 then (some (0, ([] : List (S127)), ([] : List (S66)), 1)) else (if 0 ≤ a0 then (if (a0 : Int).toNat ≤ 1353245080339 then (some (0, ([] : List (S127)), (List.replicate (a0 : Int).toNat z66), 0)) else (none)) else (none)))) = some (r1, r2, r3, r4) := h
 clear h
 by_cases c2 : a0 < 1
 ·rw [if_pos c2] at H
  have c2b0 : decide (a0 < 1) = true := decide_eq_true c2
  clear c2
  simp only [Option.some.injEq, Prod.mk.injEq] at H
  obtain ⟨rfl, rfl, rfl, rfl⟩ := H
  go_enter Try.func27, Try.ntmps27
  go_wp2_with (first | ((with_reducible refine gate_dst (N := 2) rfl ?_); refine box_event ?hg (N := 2) ?hd (cs := #[.int .i64 0, .slice none 0 0, .slice none 0 0]) (t := 46) ?hr ?_; (case hd => rfl); (case hg => rfl); (case hr => first | (go_simp; done) | (go_simp; rfl)); intro gb120 hg w3 hbox hb; have n0_ := Aside0.mk (below_step (by repeat (first | (with_reducible first | exact HB.out | apply below_alloc | apply pw_below_drewN | apply below_drew1) | exact HB.out)) hb); have n1_ := Aside0.mk (hbox); have n2_ := Aside0.mk ((by rw [hg]; exact (below_size (by repeat (first | (with_reducible first | exact HB.out | apply below_alloc | apply pw_below_drewN | apply below_drew1) | exact HB.out))) : w.heap.size ≤ gb120)); have n3_ := Aside0.mk ((by rw [hg]; exact (below_size (by repeat (first | (with_reducible first | exact HB.out | apply below_alloc | apply pw_below_drewN | apply below_drew1) | exact HB.out))) : w.heap.size ≤ gb120)); clear HB; have HB := n0_; have BK120 := n1_; have GW120 := n2_; have GE120 := n3_; clear n0_ n1_ n2_ n3_; clear hb hbox hg; have hcz4_0 : w3.cell? ⟨gb120, 0, none⟩ = some (.int .i64 0) := (blk_cell BK120.out 0).trans rfl; have hcz4_1 : w3.cell? ⟨gb120, 1, none⟩ = some (.slice none 0 0) := (blk_cell BK120.out 1).trans rfl; have hcz4_2 : w3.cell? ⟨gb120, 2, none⟩ = some (.slice none 0 0) := (blk_cell BK120.out 2).trans rfl; have hfz4_0 := blk_frozen BK120.out 0; have hfz4_1 := blk_frozen BK120.out 1; have hfz4_2 := blk_frozen BK120.out 2))
  refine bodyPost_ret (results_ct rfl _ _ gb120 46 #[.int .i64 0, .slice none 0 0, .slice none 0 0] (0, 0) _ rfl (by (with_reducible repeat (first | refine blk_drewN ?_ _ | refine blk_drew ?_ | refine blk_alloc ?_ _)); refine blk_put (cs := #[.int .i64 0, .slice none 0 0, .slice none 0 0]) ?_ 2 _ rfl; (with_reducible repeat (first | refine blk_drewN ?_ _ | refine blk_drew ?_ | refine blk_alloc ?_ _)); refine blk_put (cs := #[.int .i64 0, .slice none 0 0, .slice none 0 0]) ?_ 1 _ rfl; (with_reducible repeat (first | refine blk_drewN ?_ _ | refine blk_drew ?_ | refine blk_alloc ?_ _)); refine blk_put (cs := #[.int .i64 0, .slice none 0 0, .slice none 0 0]) ?_ 0 _ rfl; (with_reducible repeat (first | refine blk_drewN ?_ _ | refine blk_drew ?_ | refine blk_alloc ?_ _)); exact BK120.out) Try.underlying46 rfl (by kernel_rfl)) rfl ?_
  exact ⟨_, _, by first | rfl | (simp [errW_none, errW_some] <;> rfl) | (simp [*, errW_none, errW_some] <;> rfl), by first | exact Kd.R_nil _ _ _ _ _ | exact Kd.N_nil _ _ _ _ _ | exact Kd.V_nil _ _ _ _ _ | exact Kd.Q_nil _ _ _ _ _ | exact Kd.S_nil _ _ _ _ _, by first | exact Kd.R_nil _ _ _ _ _ | exact Kd.N_nil _ _ _ _ _ | exact Kd.V_nil _ _ _ _ _ | exact Kd.Q_nil _ _ _ _ _ | exact Kd.S_nil _ _ _ _ _, by repeat (first | (with_reducible first | exact HB.out | apply below_alloc | apply pw_below_drewN | apply below_drew1 | refine below_set ?_ GE120.out) | exact HB.out)⟩
 ·rw [if_neg c2] at H
  have c2b0 : decide (a0 < 1) = false := decide_eq_false c2
  clear c2
  by_cases c5 : a0 > 64
  ·rw [if_pos c5] at H
   have c5b0 : decide (64 < a0) = true := decide_eq_true c5
   clear c5
   simp only [Option.some.injEq, Prod.mk.injEq] at H
   obtain ⟨rfl, rfl, rfl, rfl⟩ := H
   go_enter Try.func27, Try.ntmps27
   go_wp2_with (first | ((with_reducible refine gate_dst (N := 2) rfl ?_); refine box_event ?hg (N := 2) ?hd (cs := #[.int .i64 0, .slice none 0 0, .slice none 0 0]) (t := 46) ?hr ?_; (case hd => rfl); (case hg => rfl); (case hr => first | (go_simp; done) | (go_simp; rfl)); intro gb120 hg w6 hbox hb; have n0_ := Aside0.mk (below_step (by repeat (first | (with_reducible first | exact HB.out | apply below_alloc | apply pw_below_drewN | apply below_drew1) | exact HB.out)) hb); have n1_ := Aside0.mk (hbox); have n2_ := Aside0.mk ((by rw [hg]; exact (below_size (by repeat (first | (with_reducible first | exact HB.out | apply below_alloc | apply pw_below_drewN | apply below_drew1) | exact HB.out))) : w.heap.size ≤ gb120)); have n3_ := Aside0.mk ((by rw [hg]; exact (below_size (by repeat (first | (with_reducible first | exact HB.out | apply below_alloc | apply pw_below_drewN | apply below_drew1) | exact HB.out))) : w.heap.size ≤ gb120)); clear HB; have HB := n0_; have BK120 := n1_; have GW120 := n2_; have GE120 := n3_; clear n0_ n1_ n2_ n3_; clear hb hbox hg; have hcz7_0 : w6.cell? ⟨gb120, 0, none⟩ = some (.int .i64 0) := (blk_cell BK120.out 0).trans rfl; have hcz7_1 : w6.cell? ⟨gb120, 1, none⟩ = some (.slice none 0 0) := (blk_cell BK120.out 1).trans rfl; have hcz7_2 : w6.cell? ⟨gb120, 2, none⟩ = some (.slice none 0 0) := (blk_cell BK120.out 2).trans rfl; have hfz7_0 := blk_frozen BK120.out 0; have hfz7_1 := blk_frozen BK120.out 1; have hfz7_2 := blk_frozen BK120.out 2))
   refine bodyPost_ret (results_ct rfl _ _ gb120 46 #[.int .i64 0, .slice none 0 0, .slice none 0 0] (0, 0) _ rfl (by (with_reducible repeat (first | refine blk_drewN ?_ _ | refine blk_drew ?_ | refine blk_alloc ?_ _)); refine blk_put (cs := #[.int .i64 0, .slice none 0 0, .slice none 0 0]) ?_ 2 _ rfl; (with_reducible repeat (first | refine blk_drewN ?_ _ | refine blk_drew ?_ | refine blk_alloc ?_ _)); refine blk_put (cs := #[.int .i64 0, .slice none 0 0, .slice none 0 0]) ?_ 1 _ rfl; (with_reducible repeat (first | refine blk_drewN ?_ _ | refine blk_drew ?_ | refine blk_alloc ?_ _)); refine blk_put (cs := #[.int .i64 0, .slice none 0 0, .slice none 0 0]) ?_ 0 _ rfl; (with_reducible repeat (first | refine blk_drewN ?_ _ | refine blk_drew ?_ | refine blk_alloc ?_ _)); exact BK120.out) Try.underlying46 rfl (by kernel_rfl)) rfl ?_
   exact ⟨_, _, by first | rfl | (simp [errW_none, errW_some] <;> rfl) | (simp [*, errW_none, errW_some] <;> rfl), by first | exact Kd.R_nil _ _ _ _ _ | exact Kd.N_nil _ _ _ _ _ | exact Kd.V_nil _ _ _ _ _ | exact Kd.Q_nil _ _ _ _ _ | exact Kd.S_nil _ _ _ _ _, by first | exact Kd.R_nil _ _ _ _ _ | exact Kd.N_nil _ _ _ _ _ | exact Kd.V_nil _ _ _ _ _ | exact Kd.Q_nil _ _ _ _ _ | exact Kd.S_nil _ _ _ _ _, by repeat (first | (with_reducible first | exact HB.out | apply below_alloc | apply pw_below_drewN | apply below_drew1 | refine below_set ?_ GE120.out) | exact HB.out)⟩
  ·rw [if_neg c5] at H
   have c5b0 : decide (64 < a0) = false := decide_eq_false c5
   clear c5
   by_cases c8 : 0 ≤ a0
   ·rw [if_pos c8] at H
    have c8b0 := eq_true c8
    have c8b1 : decide (0 ≤ a0) = true := decide_eq_true c8
    clear c8
    by_cases c9 : (a0 : Int).toNat ≤ 1353245080339
    ·rw [if_pos c9] at H
     have c9b0 := eq_true c9
     have c9b1 : decide ((a0 : Int).toNat ≤ 1353245080339) = true := decide_eq_true c9
     clear c9
     obtain ⟨y121, hy121⟩ : ∃ y_ : List (S66), y_ = (List.replicate (a0 : Int).toNat z66) := ⟨_, rfl⟩
     replace H : (some (0, ([] : List (S127)), y121, 0)) = some (r1, r2, r3, r4) := by first | (rw [hy121]; with_reducible exact H) | (have H2_ := (Option.bind_some _ _).symm.trans H; rw [hy121]; with_reducible exact H2_) | (have H2_ := (Option.bind_some _ _).symm.trans H; with_reducible exact H2_) | with_reducible exact H | (rw [hy121]; exact H) | exact H
     have Ny121 := Aside0.mk hy121
     clear hy121
     simp only [Option.some.injEq, Prod.mk.injEq] at H
     obtain ⟨rfl, rfl, rfl, rfl⟩ := H
     go_enter Try.func27, Try.ntmps27
     go_wp2_with (first | ((with_reducible refine gate_dst (N := 2) rfl ?_); refine box_event ?hg (N := 2) ?hd (cs := #[.int .i64 0, .slice none 0 0, .slice none 0 0]) (t := 46) ?hr ?_; (case hd => rfl); (case hg => rfl); (case hr => first | (go_simp; done) | (go_simp; rfl)); intro gb120 hg w10 hbox hb; have n0_ := Aside0.mk (below_step (by repeat (first | (with_reducible first | exact HB.out | apply below_alloc | apply pw_below_drewN | apply below_drew1) | exact HB.out)) hb); have n1_ := Aside0.mk (hbox); have n2_ := Aside0.mk ((by rw [hg]; exact (below_size (by repeat (first | (with_reducible first | exact HB.out | apply below_alloc | apply pw_below_drewN | apply below_drew1) | exact HB.out))) : w.heap.size ≤ gb120)); have n3_ := Aside0.mk ((by rw [hg]; exact (below_size (by repeat (first | (with_reducible first | exact HB.out | apply below_alloc | apply pw_below_drewN | apply below_drew1) | exact HB.out))) : w.heap.size ≤ gb120)); clear HB; have HB := n0_; have BK120 := n1_; have GW120 := n2_; have GE120 := n3_; clear n0_ n1_ n2_ n3_; clear hb hbox hg) | ((with_reducible refine gate_dst (N := 12) rfl ?_); refine Kd.R_make k66 _ 66 rfl (N := 12) rfl 44 _ _ rfl a0 rfl rfl Try.underlying44 (.agg #[(.int .i64 0), (.int .i64 0), (.int .i64 0), (.int .i64 0), (.int .i64 0), (.int .i64 0), (.int .i64 0), (.int .i64 0), (.int .i64 0), (.int .i64 0), (.bool false), (.int .i64 0), (.int .i64 0), (.bool false), (.int .i64 0), (.int .i64 0), (.int .i64 0), (.int .i64 0), (.int .i64 0), (.int .i64 0), (.int .i64 0), (.int .i64 0), (.int .i64 0), (.int .i64 0), (.bool false), (.int .i64 0)]) 208 info66 rfl (by decide) (by omega) z66 (ok := fun _ => True) (okp := fun _ => True) (k66_mkM _ _ _ z66 ) (fun _ hk => hk) trivial (of_decide_eq_true (by first | (with_reducible assumption) | assumption)) (Nat.le_trans (Nat.mul_le_mul_right _ (of_decide_eq_true (by first | (with_reducible assumption) | assumption) : a0.toNat ≤ 1353245080339)) (by omega)) (Below.refl _ _) (Nat.le_refl _) ?_; intro v122 w11 ho12 hb hg_ hnew_; clear hg_ hnew_; (first | rw [← Ny121.out] at ho12 | (simp only [Int.reduceToNat] at ho12; rw [← Ny121.out] at ho12)); have n0_ := Aside0.mk (Kd.R_lower ho12 (below_size (by repeat (first | (with_reducible first | exact HB.out | apply below_alloc | apply pw_below_drewN | apply below_drew1 | refine below_set ?_ GE120.out) | exact HB.out)))); have n1_ := Aside0.mk (blk_below (g := gb120) (o := .cells #[.int .i64 0, .slice none 0 0, .slice none 0 0] 46 (0, 0)) (by (with_reducible repeat (first | refine blk_drewN ?_ _ | refine blk_drew ?_ | refine blk_alloc ?_ _)); exact BK120.out) hb); have n2_ := Aside0.mk (below_step (by repeat (first | (with_reducible first | exact HB.out | apply below_alloc | apply pw_below_drewN | apply below_drew1 | refine below_set ?_ GE120.out) | exact HB.out)) hb); clear BK120; clear HB; have HO123 := n0_; have BK120 := n1_; have HB := n2_; clear n0_ n1_ n2_; clear hb ho12; obtain ⟨Ao13, co13, eo13⟩ := Kd.R_slice HO123.out; subst eo13; have hcz14_0 : w11.cell? ⟨gb120, 0, none⟩ = some (.int .i64 0) := (blk_cell BK120.out 0).trans rfl; have hcz14_1 : w11.cell? ⟨gb120, 1, none⟩ = some (.slice none 0 0) := (blk_cell BK120.out 1).trans rfl; have hcz14_2 : w11.cell? ⟨gb120, 2, none⟩ = some (.slice none 0 0) := (blk_cell BK120.out 2).trans rfl; have hfz14_0 := blk_frozen BK120.out 0; have hfz14_1 := blk_frozen BK120.out 1; have hfz14_2 := blk_frozen BK120.out 2))
     refine bodyPost_ret (results_ct rfl _ _ gb120 46 #[.int .i64 0, .slice none 0 0, .slice Ao13 y121.length co13] (0, 0) _ rfl (by (with_reducible repeat (first | refine blk_drewN ?_ _ | refine blk_drew ?_ | refine blk_alloc ?_ _)); refine blk_put (cs := #[.int .i64 0, .slice none 0 0, .slice none 0 0]) ?_ 2 _ rfl; (with_reducible repeat (first | refine blk_drewN ?_ _ | refine blk_drew ?_ | refine blk_alloc ?_ _)); refine blk_put (cs := #[.int .i64 0, .slice none 0 0, .slice none 0 0]) ?_ 1 _ rfl; (with_reducible repeat (first | refine blk_drewN ?_ _ | refine blk_drew ?_ | refine blk_alloc ?_ _)); refine blk_put (cs := #[.int .i64 0, .slice none 0 0, .slice none 0 0]) ?_ 0 _ rfl; (with_reducible repeat (first | refine blk_drewN ?_ _ | refine blk_drew ?_ | refine blk_alloc ?_ _)); exact BK120.out) Try.underlying46 rfl (by kernel_rfl)) rfl ?_
     exact ⟨_, _, by first | rfl | (simp [errW_none, errW_some] <;> rfl) | (simp [*, errW_none, errW_some] <;> rfl), by first | exact Kd.R_nil _ _ _ _ _ | exact Kd.N_nil _ _ _ _ _ | exact Kd.V_nil _ _ _ _ _ | exact Kd.Q_nil _ _ _ _ _ | exact Kd.S_nil _ _ _ _ _, by (with_reducible repeat (first | apply Kd.R_alloc | apply Kd.R_drewN | apply Kd.R_drew)); exact Kd.R_mono (Kd.R_far (p := ⟨gb120, 2, none⟩) (Kd.R_far (p := ⟨gb120, 1, none⟩) (Kd.R_far (p := ⟨gb120, 0, none⟩) (Kd.R_types HO123.out BK120.out (by decide)) (fun _ hk => hk.2) (.int .i64 0)) (fun _ hk => hk.2) (.slice none 0 0)) (fun _ hk => hk.2) (.slice Ao13 y121.length co13)) (fun _ hk => trivial), by repeat (first | (with_reducible first | exact HB.out | apply below_alloc | apply pw_below_drewN | apply below_drew1 | refine below_set ?_ GE120.out) | exact HB.out)⟩
    ·rw [if_neg c9] at H
     exact absurd H (by simp)
   ·rw [if_neg c8] at H
    exact absurd H (by simp)
def knellref12_Find.l0 : Nat → Int → Int → List (S127) → Int → Int → Option (Int)
 | 0, _, _, _, _, _ => none
 | k + 1, x5, x125000, x125001, x126000, x126001 => if x5 < (x125001.length : Int) then (if 0 ≤ x5 then (if (((rd_T127 x125001 x5).f0.f0) == x126000 && (((rd_T127 x125001 x5).f0.f1) == x126001)) = true then (some x5) else (knellref12_Find.l0 k (wrap64 (x5 + 1)) x125000 x125001 x126000 x126001)) else (none)) else (some (-1))
def knellref12_Find.f (k : Nat) (a0_0 : Int) (l0_1 : List (S127)) (a1_0 : Int) (a1_1 : Int) : Option (Int) := knellref12_Find.l0 k 0 a0_0 l0_1 a1_0 a1_1
theorem knellref12_Find.calls (k : Nat) (a0_0 : Int) (A0_1 : Option Addr) (c0_1 : Nat) (l0_1 : List (S127)) (a1_0 : Int) (a1_1 : Int) (r : Int) (w : World) (hr0_1 : Kd.C k127 w A0_1 l0_1.length l0_1) (hc0_1 : l0_1.length ≤ c0_1) (h : knellref12_Find.f k a0_0 l0_1 a1_0 a1_1 = some r) :
  Calls Try.prog 68 #[.agg #[.int .i64 a0_0, .slice A0_1 l0_1.length c0_1], .agg #[.int .i64 a1_0, .int .i64 a1_1]] w fun e w' => e = .returned (.int .i64 r) ∧ Below w.heap.size w w' := by
 have hu43 := Try.underlying43
 have hu36 := Try.underlying36
 have HR0_1 := Aside0.mk hr0_1
 have HC0_1 := Aside0.mk hc0_1
 clear hr0_1 hc0_1
 have HB := Aside0.mk (Below.refl w.heap.size w)
 have H : (knellref12_Find.l0 k 0 a0_0 l0_1 a1_0 a1_1) = some r := h
 clear h
 have H' := Aside0.mk H
 clear H
 go_enter Try.func68, Try.ntmps68
 go_wp2_with (first | ((with_reducible refine gate_dst (N := 2) rfl ?_); refine box_event ?hg (N := 2) ?hd (cs := #[.int .i64 a0_0, .slice A0_1 l0_1.length c0_1]) (t := 43) ?hr ?_; (case hd => rfl); (case hg => rfl); (case hr => first | (go_simp; done) | (go_simp; rfl)); intro gb124 hg w3 hbox hb; have n0_ := Aside0.mk (below_step (by repeat (first | (with_reducible first | exact HB.out | apply below_alloc | apply pw_below_drewN | apply below_drew1) | exact HB.out)) hb); have n1_ := Aside0.mk (hbox); have n2_ := Aside0.mk ((by rw [hg]; exact (below_size (by repeat (first | (with_reducible first | exact HB.out | apply below_alloc | apply pw_below_drewN | apply below_drew1) | exact HB.out))) : w.heap.size ≤ gb124)); have n3_ := Aside0.mk ((by rw [hg]; exact (below_size (by repeat (first | (with_reducible first | exact HB.out | apply below_alloc | apply pw_below_drewN | apply below_drew1) | exact HB.out))) : w.heap.size ≤ gb124)); clear HB; have HB := n0_; have BK124 := n1_; have GW124 := n2_; have GE124 := n3_; clear n0_ n1_ n2_ n3_; clear hb hbox hg) | ((with_reducible refine gate_dst (N := 3) rfl ?_); refine box_event ?hg (N := 3) ?hd (cs := #[.int .i64 a1_0, .int .i64 a1_1]) (t := 36) ?hr ?_; (case hd => rfl); (case hg => rfl); (case hr => first | (go_simp; done) | (go_simp; rfl)); intro gb125 hg w4 hbox hb; have n0_ := Aside0.mk (blk_below (g := gb124) (o := .cells #[.int .i64 a0_0, .slice A0_1 l0_1.length c0_1] 43 (0, 0)) (by (with_reducible repeat (first | refine blk_drewN ?_ _ | refine blk_drew ?_ | refine blk_alloc ?_ _)); exact BK124.out) hb); have n1_ := Aside0.mk (below_step (by repeat (first | (with_reducible first | exact HB.out | apply below_alloc | apply pw_below_drewN | apply below_drew1 | refine below_set ?_ GE124.out) | exact HB.out)) hb); have n2_ := Aside0.mk (hbox); have n3_ := Aside0.mk ((by rw [hg]; exact (below_size (by repeat (first | (with_reducible first | exact HB.out | apply below_alloc | apply pw_below_drewN | apply below_drew1 | refine below_set ?_ GE124.out) | exact HB.out))) : w.heap.size ≤ gb125)); have n4_ := Aside0.mk ((by rw [hg]; exact (below_size (by repeat (first | (with_reducible first | exact HB.out | apply below_alloc | apply pw_below_drewN | apply below_drew1 | refine below_set ?_ GE124.out) | exact HB.out))) : w.heap.size ≤ gb125)); have n5_ := Aside0.mk ((by rw [hg]; exact Nat.ne_of_lt (blk_lt (g := gb124) (o := .cells #[.int .i64 a0_0, .slice A0_1 l0_1.length c0_1] 43 (0, 0)) (by (with_reducible repeat (first | refine blk_drewN ?_ _ | refine blk_drew ?_ | refine blk_alloc ?_ _)); exact BK124.out)) : gb124 ≠ gb125)); have n6_ := Aside0.mk ((by rw [hg]; exact Nat.ne_of_gt (blk_lt (g := gb124) (o := .cells #[.int .i64 a0_0, .slice A0_1 l0_1.length c0_1] 43 (0, 0)) (by (with_reducible repeat (first | refine blk_drewN ?_ _ | refine blk_drew ?_ | refine blk_alloc ?_ _)); exact BK124.out)) : gb125 ≠ gb124)); clear BK124; clear HB; have BK124 := n0_; have HB := n1_; have BK125 := n2_; have GW125 := n3_; have GE125 := n4_; have NB124_125 := n5_; have NB125_124 := n6_; clear n0_ n1_ n2_ n3_ n4_ n5_ n6_; clear hb hbox hg))
 repeat (go_quiet (first | ((with_reducible refine gate_dst (N := 2) rfl ?_); refine box_event ?hg (N := 2) ?hd (cs := #[.int .i64 a0_0, .slice A0_1 l0_1.length c0_1]) (t := 43) ?hr ?_; (case hd => rfl); (case hg => rfl); (case hr => first | (go_simp; done) | (go_simp; rfl)); intro gb124 hg w3 hbox hb; have n0_ := Aside0.mk (below_step (by repeat (first | (with_reducible first | exact HB.out | apply below_alloc | apply pw_below_drewN | apply below_drew1) | exact HB.out)) hb); have n1_ := Aside0.mk (hbox); have n2_ := Aside0.mk ((by rw [hg]; exact (below_size (by repeat (first | (with_reducible first | exact HB.out | apply below_alloc | apply pw_below_drewN | apply below_drew1) | exact HB.out))) : w.heap.size ≤ gb124)); have n3_ := Aside0.mk ((by rw [hg]; exact (below_size (by repeat (first | (with_reducible first | exact HB.out | apply below_alloc | apply pw_below_drewN | apply below_drew1) | exact HB.out))) : w.heap.size ≤ gb124)); clear HB; have HB := n0_; have BK124 := n1_; have GW124 := n2_; have GE124 := n3_; clear n0_ n1_ n2_ n3_; clear hb hbox hg) | ((with_reducible refine gate_dst (N := 3) rfl ?_); refine box_event ?hg (N := 3) ?hd (cs := #[.int .i64 a1_0, .int .i64 a1_1]) (t := 36) ?hr ?_; (case hd => rfl); (case hg => rfl); (case hr => first | (go_simp; done) | (go_simp; rfl)); intro gb125 hg w4 hbox hb; have n0_ := Aside0.mk (blk_below (g := gb124) (o := .cells #[.int .i64 a0_0, .slice A0_1 l0_1.length c0_1] 43 (0, 0)) (by (with_reducible repeat (first | refine blk_drewN ?_ _ | refine blk_drew ?_ | refine blk_alloc ?_ _)); exact BK124.out) hb); have n1_ := Aside0.mk (below_step (by repeat (first | (with_reducible first | exact HB.out | apply below_alloc | apply pw_below_drewN | apply below_drew1 | refine below_set ?_ GE124.out) | exact HB.out)) hb); have n2_ := Aside0.mk (hbox); have n3_ := Aside0.mk ((by rw [hg]; exact (below_size (by repeat (first | (with_reducible first | exact HB.out | apply below_alloc | apply pw_below_drewN | apply below_drew1 | refine below_set ?_ GE124.out) | exact HB.out))) : w.heap.size ≤ gb125)); have n4_ := Aside0.mk ((by rw [hg]; exact (below_size (by repeat (first | (with_reducible first | exact HB.out | apply below_alloc | apply pw_below_drewN | apply below_drew1 | refine below_set ?_ GE124.out) | exact HB.out))) : w.heap.size ≤ gb125)); have n5_ := Aside0.mk ((by rw [hg]; exact Nat.ne_of_lt (blk_lt (g := gb124) (o := .cells #[.int .i64 a0_0, .slice A0_1 l0_1.length c0_1] 43 (0, 0)) (by (with_reducible repeat (first | refine blk_drewN ?_ _ | refine blk_drew ?_ | refine blk_alloc ?_ _)); exact BK124.out)) : gb124 ≠ gb125)); have n6_ := Aside0.mk ((by rw [hg]; exact Nat.ne_of_gt (blk_lt (g := gb124) (o := .cells #[.int .i64 a0_0, .slice A0_1 l0_1.length c0_1] 43 (0, 0)) (by (with_reducible repeat (first | refine blk_drewN ?_ _ | refine blk_drew ?_ | refine blk_alloc ?_ _)); exact BK124.out)) : gb125 ≠ gb124)); clear BK124; clear HB; have BK124 := n0_; have HB := n1_; have BK125 := n2_; have GW125 := n3_; have GE125 := n4_; have NB124_125 := n5_; have NB125_124 := n6_; clear n0_ n1_ n2_ n3_ n4_ n5_ n6_; clear hb hbox hg)); try go_wp2_with (first | ((with_reducible refine gate_dst (N := 2) rfl ?_); refine box_event ?hg (N := 2) ?hd (cs := #[.int .i64 a0_0, .slice A0_1 l0_1.length c0_1]) (t := 43) ?hr ?_; (case hd => rfl); (case hg => rfl); (case hr => first | (go_simp; done) | (go_simp; rfl)); intro gb124 hg w3 hbox hb; have n0_ := Aside0.mk (below_step (by repeat (first | (with_reducible first | exact HB.out | apply below_alloc | apply pw_below_drewN | apply below_drew1) | exact HB.out)) hb); have n1_ := Aside0.mk (hbox); have n2_ := Aside0.mk ((by rw [hg]; exact (below_size (by repeat (first | (with_reducible first | exact HB.out | apply below_alloc | apply pw_below_drewN | apply below_drew1) | exact HB.out))) : w.heap.size ≤ gb124)); have n3_ := Aside0.mk ((by rw [hg]; exact (below_size (by repeat (first | (with_reducible first | exact HB.out | apply below_alloc | apply pw_below_drewN | apply below_drew1) | exact HB.out))) : w.heap.size ≤ gb124)); clear HB; have HB := n0_; have BK124 := n1_; have GW124 := n2_; have GE124 := n3_; clear n0_ n1_ n2_ n3_; clear hb hbox hg) | ((with_reducible refine gate_dst (N := 3) rfl ?_); refine box_event ?hg (N := 3) ?hd (cs := #[.int .i64 a1_0, .int .i64 a1_1]) (t := 36) ?hr ?_; (case hd => rfl); (case hg => rfl); (case hr => first | (go_simp; done) | (go_simp; rfl)); intro gb125 hg w4 hbox hb; have n0_ := Aside0.mk (blk_below (g := gb124) (o := .cells #[.int .i64 a0_0, .slice A0_1 l0_1.length c0_1] 43 (0, 0)) (by (with_reducible repeat (first | refine blk_drewN ?_ _ | refine blk_drew ?_ | refine blk_alloc ?_ _)); exact BK124.out) hb); have n1_ := Aside0.mk (below_step (by repeat (first | (with_reducible first | exact HB.out | apply below_alloc | apply pw_below_drewN | apply below_drew1 | refine below_set ?_ GE124.out) | exact HB.out)) hb); have n2_ := Aside0.mk (hbox); have n3_ := Aside0.mk ((by rw [hg]; exact (below_size (by repeat (first | (with_reducible first | exact HB.out | apply below_alloc | apply pw_below_drewN | apply below_drew1 | refine below_set ?_ GE124.out) | exact HB.out))) : w.heap.size ≤ gb125)); have n4_ := Aside0.mk ((by rw [hg]; exact (below_size (by repeat (first | (with_reducible first | exact HB.out | apply below_alloc | apply pw_below_drewN | apply below_drew1 | refine below_set ?_ GE124.out) | exact HB.out))) : w.heap.size ≤ gb125)); have n5_ := Aside0.mk ((by rw [hg]; exact Nat.ne_of_lt (blk_lt (g := gb124) (o := .cells #[.int .i64 a0_0, .slice A0_1 l0_1.length c0_1] 43 (0, 0)) (by (with_reducible repeat (first | refine blk_drewN ?_ _ | refine blk_drew ?_ | refine blk_alloc ?_ _)); exact BK124.out)) : gb124 ≠ gb125)); have n6_ := Aside0.mk ((by rw [hg]; exact Nat.ne_of_gt (blk_lt (g := gb124) (o := .cells #[.int .i64 a0_0, .slice A0_1 l0_1.length c0_1] 43 (0, 0)) (by (with_reducible repeat (first | refine blk_drewN ?_ _ | refine blk_drew ?_ | refine blk_alloc ?_ _)); exact BK124.out)) : gb125 ≠ gb124)); clear BK124; clear HB; have BK124 := n0_; have HB := n1_; have BK125 := n2_; have GW125 := n3_; have GE125 := n4_; have NB124_125 := n5_; have NB125_124 := n6_; clear n0_ n1_ n2_ n3_ n4_ n5_ n6_; clear hb hbox hg)))
 go_loopg [5] k (fun kq v5 w' => ∃ (x5_1 : Int), v5 = .int .i64 x5_1 ∧ Aside0 (knellref12_Find.l0 kq x5_1 a0_0 l0_1 a1_0 a1_1 = some r) ∧ Aside0 (kq ≤ k) ∧ Aside0 (w'.heap[gb124]? = some (.cells #[.int .i64 a0_0, (.slice A0_1 l0_1.length c0_1)] 43 (0, 0))) ∧ Aside0 (w'.heap[gb125]? = some (.cells #[.int .i64 a1_0, .int .i64 a1_1] 36 (0, 0))) ∧ Aside0 (Below w.heap.size w w'))
 case atStart => exact ⟨(0), (by first | rfl | (simp; done) | (simp [*]; done)), H', ⟨Nat.le_refl _⟩, ⟨by (with_reducible repeat (first | refine blk_drewN ?_ _ | refine blk_drew ?_ | refine blk_alloc ?_ _)); exact BK124.out⟩, ⟨by (with_reducible repeat (first | refine blk_drewN ?_ _ | refine blk_drew ?_ | refine blk_alloc ?_ _)); exact BK125.out⟩, ⟨by repeat (first | (with_reducible first | exact HB.out | apply below_alloc | apply pw_below_drewN | apply below_drew1 | refine below_set ?_ GE124.out | refine below_set ?_ GE125.out) | exact HB.out)⟩⟩
 case round =>
  clear H'
  try clear p2
  obtain ⟨x5_1, rfl, HA, HK1, BK124, BK125, HB⟩ := hrel
  cases gk with
  | zero => exact absurd HA.out (by simp [knellref12_Find.l0])
  | succ k1 =>
   have H := HA.out
   clear HA
   simp only [knellref12_Find.l0] at H
   by_cases c5 : x5_1 < (l0_1.length : Int)
   ·rw [if_pos c5] at H
    have c5b0 : decide (x5_1 < (l0_1.length : Int)) = true := decide_eq_true c5
    clear c5
    by_cases c6 : 0 ≤ x5_1
    ·rw [if_pos c6] at H
     have c6b0 : decide (0 ≤ x5_1) = true := decide_eq_true c6
     clear c6
     by_cases c7 : (((rd_T127 l0_1 x5_1).f0.f0) == a1_0 && (((rd_T127 l0_1 x5_1).f0.f1) == a1_1)) = true
     ·rw [if_pos c7] at H
      have c7b0 : (((rd_T127 l0_1 x5_1).f0.f0) == a1_0 && (((rd_T127 l0_1 x5_1).f0.f1) == a1_1)) = true := c7
      (try (have c7b1 : decide (((rd_T127 l0_1 x5_1).f0.f0) = a1_0 && (((rd_T127 l0_1 x5_1).f0.f1) == a1_1)) = true := by simpa using c7))
      (try (have c7b2 : (((rd_T127 l0_1 x5_1).f0.f0) == a1_0 && (((rd_T127 l0_1 x5_1).f0.f1) == a1_1)) = true := by simpa using c7))
      clear c7
      obtain rfl := Option.some.inj H
      have hnb8 := NB124_125.out
      have hnc8 := NB125_124.out
      have hcz9_0 : wr.cell? ⟨gb124, 0, none⟩ = some (.int .i64 a0_0) := (blk_cell BK124.out 0).trans rfl
      have hcz9_1 : wr.cell? ⟨gb124, 1, none⟩ = some (.slice A0_1 l0_1.length c0_1) := (blk_cell BK124.out 1).trans rfl
      have hfz9_0 := blk_frozen BK124.out 0
      have hfz9_1 := blk_frozen BK124.out 1
      have p126 : 0 ≤ (x5_1 : Int) := of_decide_eq_true (by first | (with_reducible assumption) | assumption)
      have q126 : x5_1 < (l0_1.length : Int) := of_decide_eq_true (by first | (with_reducible assumption) | assumption)
      obtain ⟨ad126, e126, hx126_0, hx126_1, hx126_2, hx126_3⟩ := at_T127 HR0_1.out x5_1 p126 q126
      cases e126
      replace hx126_0 := (HB.out.cell (World.block_lt_of_cell? w _ hx126_0)).trans hx126_0
      replace hx126_1 := (HB.out.cell (World.block_lt_of_cell? w _ hx126_1)).trans hx126_1
      replace hx126_2 := (HB.out.cell (World.block_lt_of_cell? w _ hx126_2)).trans hx126_2
      replace hx126_3 := (HB.out.cell (World.block_lt_of_cell? w _ hx126_3)).trans hx126_3
      replace p126 := eq_true p126
      replace q126 := eq_true q126
      have hcz10_0 : wr.cell? ⟨gb125, 0, none⟩ = some (.int .i64 a1_0) := (blk_cell BK125.out 0).trans rfl
      have hcz10_1 : wr.cell? ⟨gb125, 1, none⟩ = some (.int .i64 a1_1) := (blk_cell BK125.out 1).trans rfl
      have hfz10_0 := blk_frozen BK125.out 0
      have hfz10_1 := blk_frozen BK125.out 1
      go_wp2
      repeat (go_quiet (fail); try go_wp2)
      go_ret
      exact ⟨by first | rfl | (simp [errW_none, errW_some] <;> rfl) | (simp [*, errW_none, errW_some] <;> rfl), by repeat (first | (with_reducible first | exact HB.out | apply below_alloc | apply pw_below_drewN | apply below_drew1 | refine below_set ?_ GE124.out | refine below_set ?_ GE125.out) | exact HB.out)⟩
     ·rw [if_neg c7] at H
      have c7b0 : (((rd_T127 l0_1 x5_1).f0.f0) == a1_0 && (((rd_T127 l0_1 x5_1).f0.f1) == a1_1)) = false := by simpa using c7
      (try (have c7b1 : decide (((rd_T127 l0_1 x5_1).f0.f0) = a1_0 && (((rd_T127 l0_1 x5_1).f0.f1) == a1_1)) = false := by simpa using c7))
      (try (have c7b2 : (((rd_T127 l0_1 x5_1).f0.f0) == a1_0 && (((rd_T127 l0_1 x5_1).f0.f1) == a1_1)) = false := by simpa using c7))
      (try (have c7b3 : ¬ (((rd_T127 l0_1 x5_1).f0.f0) = a1_0 && (((rd_T127 l0_1 x5_1).f0.f1) == a1_1)) := by simpa using c7))
      clear c7
      have H' := Aside0.mk H
      clear H
      have hnb11 := NB124_125.out
      have hnc11 := NB125_124.out
      have hcz12_0 : wr.cell? ⟨gb124, 0, none⟩ = some (.int .i64 a0_0) := (blk_cell BK124.out 0).trans rfl
      have hcz12_1 : wr.cell? ⟨gb124, 1, none⟩ = some (.slice A0_1 l0_1.length c0_1) := (blk_cell BK124.out 1).trans rfl
      have hfz12_0 := blk_frozen BK124.out 0
      have hfz12_1 := blk_frozen BK124.out 1
      have p126 : 0 ≤ (x5_1 : Int) := of_decide_eq_true (by first | (with_reducible assumption) | assumption)
      have q126 : x5_1 < (l0_1.length : Int) := of_decide_eq_true (by first | (with_reducible assumption) | assumption)
      obtain ⟨ad126, e126, hx126_0, hx126_1, hx126_2, hx126_3⟩ := at_T127 HR0_1.out x5_1 p126 q126
      cases e126
      replace hx126_0 := (HB.out.cell (World.block_lt_of_cell? w _ hx126_0)).trans hx126_0
      replace hx126_1 := (HB.out.cell (World.block_lt_of_cell? w _ hx126_1)).trans hx126_1
      replace hx126_2 := (HB.out.cell (World.block_lt_of_cell? w _ hx126_2)).trans hx126_2
      replace hx126_3 := (HB.out.cell (World.block_lt_of_cell? w _ hx126_3)).trans hx126_3
      replace p126 := eq_true p126
      replace q126 := eq_true q126
      have hcz13_0 : wr.cell? ⟨gb125, 0, none⟩ = some (.int .i64 a1_0) := (blk_cell BK125.out 0).trans rfl
      have hcz13_1 : wr.cell? ⟨gb125, 1, none⟩ = some (.int .i64 a1_1) := (blk_cell BK125.out 1).trans rfl
      have hfz13_0 := blk_frozen BK125.out 0
      have hfz13_1 := blk_frozen BK125.out 1
      go_wp2
      repeat (go_quiet (fail); try go_wp2)
      go_roundg k1
      case measure => have := HK1.out; omega
      case rel => exact ⟨(wrap64 (x5_1 + 1)), (by first | rfl | (simp; done) | (simp [*]; done)), H', ⟨by have := HK1.out; omega⟩, ⟨by (with_reducible repeat (first | refine blk_drewN ?_ _ | refine blk_drew ?_ | refine blk_alloc ?_ _)); exact BK124.out⟩, ⟨by (with_reducible repeat (first | refine blk_drewN ?_ _ | refine blk_drew ?_ | refine blk_alloc ?_ _)); exact BK125.out⟩, ⟨by repeat (first | (with_reducible first | exact HB.out | apply below_alloc | apply pw_below_drewN | apply below_drew1 | refine below_set ?_ GE124.out | refine below_set ?_ GE125.out) | exact HB.out)⟩⟩
    ·rw [if_neg c6] at H
     exact absurd H (by simp)
   ·rw [if_neg c5] at H
    have c5b0 : decide (x5_1 < (l0_1.length : Int)) = false := decide_eq_false c5
    clear c5
    obtain rfl := Option.some.inj H
    have hnb14 := NB124_125.out
    have hnc14 := NB125_124.out
    have hcz15_0 : wr.cell? ⟨gb124, 0, none⟩ = some (.int .i64 a0_0) := (blk_cell BK124.out 0).trans rfl
    have hcz15_1 : wr.cell? ⟨gb124, 1, none⟩ = some (.slice A0_1 l0_1.length c0_1) := (blk_cell BK124.out 1).trans rfl
    have hfz15_0 := blk_frozen BK124.out 0
    have hfz15_1 := blk_frozen BK124.out 1
    go_wp2
    repeat (go_quiet (fail); try go_wp2)
    go_ret
    exact ⟨by first | rfl | (simp [errW_none, errW_some] <;> rfl) | (simp [*, errW_none, errW_some] <;> rfl), by repeat (first | (with_reducible first | exact HB.out | apply below_alloc | apply pw_below_drewN | apply below_drew1 | refine below_set ?_ GE124.out | refine below_set ?_ GE125.out) | exact HB.out)⟩
def knellref12_Status.f (k : Nat) (a0_0 : Int) (l0_1 : List (S127)) (a1_0 : Int) (a1_1 : Int) : Option (Int) := (knellref12_Find.f k a0_0 l0_1 a1_0 a1_1).bind fun t129 => (if t129 < 0 then (some 0) else (if 0 ≤ t129 then (if t129 < (l0_1.length : Int) then (some ((rd_T127 l0_1 t129).f1)) else (none)) else (none)))
theorem knellref12_Status.calls (k : Nat) (a0_0 : Int) (A0_1 : Option Addr) (c0_1 : Nat) (l0_1 : List (S127)) (a1_0 : Int) (a1_1 : Int) (r : Int) (w : World) (hr0_1 : Kd.C k127 w A0_1 l0_1.length l0_1) (hc0_1 : l0_1.length ≤ c0_1) (h : knellref12_Status.f k a0_0 l0_1 a1_0 a1_1 = some r) :
  Calls Try.prog 35 #[.agg #[.int .i64 a0_0, .slice A0_1 l0_1.length c0_1], .agg #[.int .i64 a1_0, .int .i64 a1_1]] w fun e w' => e = .returned (.int .i64 r) ∧ Below w.heap.size w w' := by
 have hu43 := Try.underlying43
 have hu36 := Try.underlying36
 have HR0_1 := Aside0.mk hr0_1
 have HC0_1 := Aside0.mk hc0_1
 clear hr0_1 hc0_1
 have HB := Aside0.mk (Below.refl w.heap.size w)
 have H : ((knellref12_Find.f k a0_0 l0_1 a1_0 a1_1).bind fun t129 => (if t129 < 0 then (some 0) else (if 0 ≤ t129 then (if t129 < (l0_1.length : Int) then (some ((rd_T127 l0_1 t129).f1)) else (none)) else (none)))) = some r := h
 clear h
 replace H := Option.bind_eq_some_iff.mp H
 obtain ⟨t129, A30, H⟩ := H
 replace H : (if t129 < 0 then (some 0) else (if 0 ≤ t129 then (if t129 < (l0_1.length : Int) then (some ((rd_T127 l0_1 t129).f1)) else (none)) else (none))) = some r := H
 have A3 := Aside0.mk A30
 clear A30
 by_cases c4 : t129 < 0
 ·rw [if_pos c4] at H
  have c4b0 : decide (t129 < 0) = true := decide_eq_true c4
  clear c4
  obtain rfl := Option.some.inj H
  go_enter Try.func35, Try.ntmps35
  go_wp2_with (first | ((with_reducible refine gate_dst (N := 2) rfl ?_); refine box_event ?hg (N := 2) ?hd (cs := #[.int .i64 a0_0, .slice A0_1 l0_1.length c0_1]) (t := 43) ?hr ?_; (case hd => rfl); (case hg => rfl); (case hr => first | (go_simp; done) | (go_simp; rfl)); intro gb127 hg w5 hbox hb; have n0_ := Aside0.mk (below_step (by repeat (first | (with_reducible first | exact HB.out | apply below_alloc | apply pw_below_drewN | apply below_drew1) | exact HB.out)) hb); have n1_ := Aside0.mk (hbox); have n2_ := Aside0.mk ((by rw [hg]; exact (below_size (by repeat (first | (with_reducible first | exact HB.out | apply below_alloc | apply pw_below_drewN | apply below_drew1) | exact HB.out))) : w.heap.size ≤ gb127)); have n3_ := Aside0.mk ((by rw [hg]; exact (below_size (by repeat (first | (with_reducible first | exact HB.out | apply below_alloc | apply pw_below_drewN | apply below_drew1) | exact HB.out))) : w.heap.size ≤ gb127)); clear HB; have HB := n0_; have BK127 := n1_; have GW127 := n2_; have GE127 := n3_; clear n0_ n1_ n2_ n3_; clear hb hbox hg) | ((with_reducible refine gate_dst (N := 3) rfl ?_); refine box_event ?hg (N := 3) ?hd (cs := #[.int .i64 a1_0, .int .i64 a1_1]) (t := 36) ?hr ?_; (case hd => rfl); (case hg => rfl); (case hr => first | (go_simp; done) | (go_simp; rfl)); intro gb128 hg w6 hbox hb; have n0_ := Aside0.mk (blk_below (g := gb127) (o := .cells #[.int .i64 a0_0, .slice A0_1 l0_1.length c0_1] 43 (0, 0)) (by (with_reducible repeat (first | refine blk_drewN ?_ _ | refine blk_drew ?_ | refine blk_alloc ?_ _)); exact BK127.out) hb); have n1_ := Aside0.mk (below_step (by repeat (first | (with_reducible first | exact HB.out | apply below_alloc | apply pw_below_drewN | apply below_drew1 | refine below_set ?_ GE127.out) | exact HB.out)) hb); have n2_ := Aside0.mk (hbox); have n3_ := Aside0.mk ((by rw [hg]; exact (below_size (by repeat (first | (with_reducible first | exact HB.out | apply below_alloc | apply pw_below_drewN | apply below_drew1 | refine below_set ?_ GE127.out) | exact HB.out))) : w.heap.size ≤ gb128)); have n4_ := Aside0.mk ((by rw [hg]; exact (below_size (by repeat (first | (with_reducible first | exact HB.out | apply below_alloc | apply pw_below_drewN | apply below_drew1 | refine below_set ?_ GE127.out) | exact HB.out))) : w.heap.size ≤ gb128)); have n5_ := Aside0.mk ((by rw [hg]; exact Nat.ne_of_lt (blk_lt (g := gb127) (o := .cells #[.int .i64 a0_0, .slice A0_1 l0_1.length c0_1] 43 (0, 0)) (by (with_reducible repeat (first | refine blk_drewN ?_ _ | refine blk_drew ?_ | refine blk_alloc ?_ _)); exact BK127.out)) : gb127 ≠ gb128)); have n6_ := Aside0.mk ((by rw [hg]; exact Nat.ne_of_gt (blk_lt (g := gb127) (o := .cells #[.int .i64 a0_0, .slice A0_1 l0_1.length c0_1] 43 (0, 0)) (by (with_reducible repeat (first | refine blk_drewN ?_ _ | refine blk_drew ?_ | refine blk_alloc ?_ _)); exact BK127.out)) : gb128 ≠ gb127)); clear BK127; clear HB; have BK127 := n0_; have HB := n1_; have BK128 := n2_; have GW128 := n3_; have GE128 := n4_; have NB127_128 := n5_; have NB128_127 := n6_; clear n0_ n1_ n2_ n3_ n4_ n5_ n6_; clear hb hbox hg; have hnb7 := NB127_128.out; have hnc7 := NB128_127.out; have hcz8_0 : w6.cell? ⟨gb127, 0, none⟩ = some (.int .i64 a0_0) := (blk_cell BK127.out 0).trans rfl; have hcz8_1 : w6.cell? ⟨gb127, 1, none⟩ = some (.slice A0_1 l0_1.length c0_1) := (blk_cell BK127.out 1).trans rfl; have hfz8_0 := blk_frozen BK127.out 0; have hfz8_1 := blk_frozen BK127.out 1; have hcz9_0 : w6.cell? ⟨gb128, 0, none⟩ = some (.int .i64 a1_0) := (blk_cell BK128.out 0).trans rfl; have hcz9_1 : w6.cell? ⟨gb128, 1, none⟩ = some (.int .i64 a1_1) := (blk_cell BK128.out 1).trans rfl; have hfz9_0 := blk_frozen BK128.out 0; have hfz9_1 := blk_frozen BK128.out 1) | ((with_reducible refine gate_callee (f := 68) rfl ?_); refine goesL_ (some 8) rfl rfl Try.func68 (by kernel_rfl) rfl #[.agg #[.int .i64 a0_0, .slice A0_1 l0_1.length c0_1], .agg #[.int .i64 a1_0, .int .i64 a1_1]] rfl (by (try simp only [List.map_toArray, List.map_cons, List.map_nil]); first | done | rfl | (simp only [List.length_drop, List.length_take]; rfl)) ?_; (with_reducible refine (knellref12_Find.calls k a0_0 _ _ l0_1 a1_0 a1_1 t129 _ ?side1 ?side2 A3.out).mono ?_); (case side1 => repeat (first | exact (Kd.C_below HR0_1.out HB.out) | (with_reducible refine Kd.C_alloc ?_ _) | (with_reducible refine Kd.C_drewN ?_ _) | (with_reducible refine Kd.C_drew ?_))); (case side2 => exact HC0_1.out); rintro e w10 ⟨rfl, hb⟩; refine ⟨_, rfl, ?_⟩; have n0_ := Aside0.mk (blk_below (g := gb127) (o := .cells #[.int .i64 a0_0, .slice A0_1 l0_1.length c0_1] 43 (0, 0)) (by (with_reducible repeat (first | refine blk_drewN ?_ _ | refine blk_drew ?_ | refine blk_alloc ?_ _)); exact BK127.out) hb); have n1_ := Aside0.mk (blk_below (g := gb128) (o := .cells #[.int .i64 a1_0, .int .i64 a1_1] 36 (0, 0)) (by (with_reducible repeat (first | refine blk_drewN ?_ _ | refine blk_drew ?_ | refine blk_alloc ?_ _)); exact BK128.out) hb); have n2_ := Aside0.mk (below_step (by repeat (first | (with_reducible first | exact HB.out | apply below_alloc | apply pw_below_drewN | apply below_drew1 | refine below_set ?_ GE127.out | refine below_set ?_ GE128.out) | exact HB.out)) hb); clear BK127; clear BK128; clear HB; have BK127 := n0_; have BK128 := n1_; have HB := n2_; clear n0_ n1_ n2_; (try clear hb); (try clear hb2); (try clear hk); (try clear hi)))
  go_ret
  exact ⟨by first | rfl | (simp [errW_none, errW_some] <;> rfl) | (simp [*, errW_none, errW_some] <;> rfl), by repeat (first | (with_reducible first | exact HB.out | apply below_alloc | apply pw_below_drewN | apply below_drew1 | refine below_set ?_ GE127.out | refine below_set ?_ GE128.out) | exact HB.out)⟩
 ·rw [if_neg c4] at H
  have c4b0 : decide (t129 < 0) = false := decide_eq_false c4
  clear c4
  by_cases c11 : 0 ≤ t129
  ·rw [if_pos c11] at H
   have c11b0 : decide (0 ≤ t129) = true := decide_eq_true c11
   clear c11
   by_cases c12 : t129 < (l0_1.length : Int)
   ·rw [if_pos c12] at H
    have c12b0 : decide (t129 < (l0_1.length : Int)) = true := decide_eq_true c12
    clear c12
    obtain rfl := Option.some.inj H
    go_enter Try.func35, Try.ntmps35
    go_wp2_with (first | ((with_reducible refine gate_dst (N := 2) rfl ?_); refine box_event ?hg (N := 2) ?hd (cs := #[.int .i64 a0_0, .slice A0_1 l0_1.length c0_1]) (t := 43) ?hr ?_; (case hd => rfl); (case hg => rfl); (case hr => first | (go_simp; done) | (go_simp; rfl)); intro gb127 hg w13 hbox hb; have n0_ := Aside0.mk (below_step (by repeat (first | (with_reducible first | exact HB.out | apply below_alloc | apply pw_below_drewN | apply below_drew1) | exact HB.out)) hb); have n1_ := Aside0.mk (hbox); have n2_ := Aside0.mk ((by rw [hg]; exact (below_size (by repeat (first | (with_reducible first | exact HB.out | apply below_alloc | apply pw_below_drewN | apply below_drew1) | exact HB.out))) : w.heap.size ≤ gb127)); have n3_ := Aside0.mk ((by rw [hg]; exact (below_size (by repeat (first | (with_reducible first | exact HB.out | apply below_alloc | apply pw_below_drewN | apply below_drew1) | exact HB.out))) : w.heap.size ≤ gb127)); clear HB; have HB := n0_; have BK127 := n1_; have GW127 := n2_; have GE127 := n3_; clear n0_ n1_ n2_ n3_; clear hb hbox hg) | ((with_reducible refine gate_dst (N := 3) rfl ?_); refine box_event ?hg (N := 3) ?hd (cs := #[.int .i64 a1_0, .int .i64 a1_1]) (t := 36) ?hr ?_; (case hd => rfl); (case hg => rfl); (case hr => first | (go_simp; done) | (go_simp; rfl)); intro gb128 hg w14 hbox hb; have n0_ := Aside0.mk (blk_below (g := gb127) (o := .cells #[.int .i64 a0_0, .slice A0_1 l0_1.length c0_1] 43 (0, 0)) (by (with_reducible repeat (first | refine blk_drewN ?_ _ | refine blk_drew ?_ | refine blk_alloc ?_ _)); exact BK127.out) hb); have n1_ := Aside0.mk (below_step (by repeat (first | (with_reducible first | exact HB.out | apply below_alloc | apply pw_below_drewN | apply below_drew1 | refine below_set ?_ GE127.out) | exact HB.out)) hb); have n2_ := Aside0.mk (hbox); have n3_ := Aside0.mk ((by rw [hg]; exact (below_size (by repeat (first | (with_reducible first | exact HB.out | apply below_alloc | apply pw_below_drewN | apply below_drew1 | refine below_set ?_ GE127.out) | exact HB.out))) : w.heap.size ≤ gb128)); have n4_ := Aside0.mk ((by rw [hg]; exact (below_size (by repeat (first | (with_reducible first | exact HB.out | apply below_alloc | apply pw_below_drewN | apply below_drew1 | refine below_set ?_ GE127.out) | exact HB.out))) : w.heap.size ≤ gb128)); have n5_ := Aside0.mk ((by rw [hg]; exact Nat.ne_of_lt (blk_lt (g := gb127) (o := .cells #[.int .i64 a0_0, .slice A0_1 l0_1.length c0_1] 43 (0, 0)) (by (with_reducible repeat (first | refine blk_drewN ?_ _ | refine blk_drew ?_ | refine blk_alloc ?_ _)); exact BK127.out)) : gb127 ≠ gb128)); have n6_ := Aside0.mk ((by rw [hg]; exact Nat.ne_of_gt (blk_lt (g := gb127) (o := .cells #[.int .i64 a0_0, .slice A0_1 l0_1.length c0_1] 43 (0, 0)) (by (with_reducible repeat (first | refine blk_drewN ?_ _ | refine blk_drew ?_ | refine blk_alloc ?_ _)); exact BK127.out)) : gb128 ≠ gb127)); clear BK127; clear HB; have BK127 := n0_; have HB := n1_; have BK128 := n2_; have GW128 := n3_; have GE128 := n4_; have NB127_128 := n5_; have NB128_127 := n6_; clear n0_ n1_ n2_ n3_ n4_ n5_ n6_; clear hb hbox hg; have hnb15 := NB127_128.out; have hnc15 := NB128_127.out; have hcz16_0 : w14.cell? ⟨gb127, 0, none⟩ = some (.int .i64 a0_0) := (blk_cell BK127.out 0).trans rfl; have hcz16_1 : w14.cell? ⟨gb127, 1, none⟩ = some (.slice A0_1 l0_1.length c0_1) := (blk_cell BK127.out 1).trans rfl; have hfz16_0 := blk_frozen BK127.out 0; have hfz16_1 := blk_frozen BK127.out 1; have hcz17_0 : w14.cell? ⟨gb128, 0, none⟩ = some (.int .i64 a1_0) := (blk_cell BK128.out 0).trans rfl; have hcz17_1 : w14.cell? ⟨gb128, 1, none⟩ = some (.int .i64 a1_1) := (blk_cell BK128.out 1).trans rfl; have hfz17_0 := blk_frozen BK128.out 0; have hfz17_1 := blk_frozen BK128.out 1) | ((with_reducible refine gate_callee (f := 68) rfl ?_); refine goesL_ (some 8) rfl rfl Try.func68 (by kernel_rfl) rfl #[.agg #[.int .i64 a0_0, .slice A0_1 l0_1.length c0_1], .agg #[.int .i64 a1_0, .int .i64 a1_1]] rfl (by (try simp only [List.map_toArray, List.map_cons, List.map_nil]); first | done | rfl | (simp only [List.length_drop, List.length_take]; rfl)) ?_; (with_reducible refine (knellref12_Find.calls k a0_0 _ _ l0_1 a1_0 a1_1 t129 _ ?side1 ?side2 A3.out).mono ?_); (case side1 => repeat (first | exact (Kd.C_below HR0_1.out HB.out) | (with_reducible refine Kd.C_alloc ?_ _) | (with_reducible refine Kd.C_drewN ?_ _) | (with_reducible refine Kd.C_drew ?_))); (case side2 => exact HC0_1.out); rintro e w18 ⟨rfl, hb⟩; refine ⟨_, rfl, ?_⟩; have n0_ := Aside0.mk (blk_below (g := gb127) (o := .cells #[.int .i64 a0_0, .slice A0_1 l0_1.length c0_1] 43 (0, 0)) (by (with_reducible repeat (first | refine blk_drewN ?_ _ | refine blk_drew ?_ | refine blk_alloc ?_ _)); exact BK127.out) hb); have n1_ := Aside0.mk (blk_below (g := gb128) (o := .cells #[.int .i64 a1_0, .int .i64 a1_1] 36 (0, 0)) (by (with_reducible repeat (first | refine blk_drewN ?_ _ | refine blk_drew ?_ | refine blk_alloc ?_ _)); exact BK128.out) hb); have n2_ := Aside0.mk (below_step (by repeat (first | (with_reducible first | exact HB.out | apply below_alloc | apply pw_below_drewN | apply below_drew1 | refine below_set ?_ GE127.out | refine below_set ?_ GE128.out) | exact HB.out)) hb); clear BK127; clear BK128; clear HB; have BK127 := n0_; have BK128 := n1_; have HB := n2_; clear n0_ n1_ n2_; (try clear hb); (try clear hb2); (try clear hk); (try clear hi); have hcz19_0 : w18.cell? ⟨gb127, 0, none⟩ = some (.int .i64 a0_0) := (blk_cell BK127.out 0).trans rfl; have hcz19_1 : w18.cell? ⟨gb127, 1, none⟩ = some (.slice A0_1 l0_1.length c0_1) := (blk_cell BK127.out 1).trans rfl; have hfz19_0 := blk_frozen BK127.out 0; have hfz19_1 := blk_frozen BK127.out 1; have p130 : 0 ≤ (t129 : Int) := of_decide_eq_true (by first | (with_reducible assumption) | assumption); have q130 : t129 < (l0_1.length : Int) := of_decide_eq_true (by first | (with_reducible assumption) | assumption); obtain ⟨ad130, e130, hx130_0, hx130_1, hx130_2, hx130_3⟩ := at_T127 HR0_1.out t129 p130 q130; cases e130; replace hx130_0 := (HB.out.cell (World.block_lt_of_cell? w _ hx130_0)).trans hx130_0; replace hx130_1 := (HB.out.cell (World.block_lt_of_cell? w _ hx130_1)).trans hx130_1; replace hx130_2 := (HB.out.cell (World.block_lt_of_cell? w _ hx130_2)).trans hx130_2; replace hx130_3 := (HB.out.cell (World.block_lt_of_cell? w _ hx130_3)).trans hx130_3; replace p130 := eq_true p130; replace q130 := eq_true q130))
    go_ret
    exact ⟨by first | rfl | (simp [errW_none, errW_some] <;> rfl) | (simp [*, errW_none, errW_some] <;> rfl), by repeat (first | (with_reducible first | exact HB.out | apply below_alloc | apply pw_below_drewN | apply below_drew1 | refine below_set ?_ GE127.out | refine below_set ?_ GE128.out) | exact HB.out)⟩
   ·rw [if_neg c12] at H
    exact absurd H (by simp)
  ·rw [if_neg c11] at H
   exact absurd H (by simp)
end Go.Proofs.Ythniclbmpeklmaa.KJf
end
