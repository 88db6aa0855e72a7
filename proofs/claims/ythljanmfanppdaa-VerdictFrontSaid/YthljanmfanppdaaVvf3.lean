/- What is proved: a part of the way to the statement VerdictFrontSaid: Kw, KBackx0, KBackx1, KBackx2, KBackx3, PureLk, Bq, Br, VdP, VdM, VdG; no conditions. Put together by a program of this session (claimv.py). -/
import Derived.Test.YthljanmfanppdaaProg
import Derived.WalkKit
import Derived.KernelRfl
import Derived.Deep.LoopGhost
import Derived.Deep.QuietTactic
import Derived.BigQuiet
import Derived.Laws.CopyOwn
import Derived.Laws.Rows
import Derived.Below
import Derived.Deep.Draws
import Derived.Deep.AppendLies
import Derived.Maps.AppendAt
import Derived.OwnWalk
import Derived.Laws.BytesArg
import Derived.Laws.MakeOwn
import Derived.Laws.OwnMore
import Derived.Deep.OwnRows
import Derived.Tactics
import Derived.Lib.ConvBytes
import Derived.Laws.Slices
import Derived.RowKit3
import Derived.WideLaws
import Derived.Deep.DeepCutAuto
import Derived.Deep.CutBlock
import Derived.Deep.RegionHeld3
import Derived.Lib.AppendStr
import Derived.ArgAppend
import Derived.Laws.IdiomCopy
import Derived.OrdersHeld
import Derived.Laws.BitsLemmas
import Derived.RowKit
import Derived.StillTailTactics
import Derived.Test.YthljanmfanppdaaVvf2
section
namespace Go.Proofs.Ythljanmfanppdaa.Kw
open Go.RowKit Go.Proofs.YthljanmfanppdaaW.PrintWords Go.Proofs.YthljanmfanppdaaW.PrintLast Go.Proofs.YthljanmfanppdaaW.PrintMore
set_option linter.unusedVariables false
def cfLeast (i : Int) : Int := if i = 5 then 0 else if i = 6 then 0 else if i = 7 then 0 else if i = 11 then 0 else if i = 12 then 0 else 1
def cfMost (i : Int) : Int := if i = 0 then 64 else if i = 1 then 8 else if i = 2 then 6 else if i = 3 then 4096 else if i = 4 then 8192 else if i = 6 then 4294967295 else if i = 7 then 256 else if i = 12 then 31 else 1073741823
theorem thirteen {i : Int} (h0 : 0 ≤ i) (h1 : i < 13) : i = 0 ∨ i = 1 ∨ i = 2 ∨ i = 3 ∨ i = 4 ∨ i = 5 ∨ i = 6 ∨ i = 7 ∨ i = 8 ∨ i = 9 ∨ i = 10 ∨ i = 11 ∨ i = 12 := by omega
def cfBad (l : List Int) : Nat → Int → Int × Int
 | 0, _ => (0, 0)
 | d + 1, i => if l.getD i.toNat 0 < cfLeast i ∨ cfMost i < l.getD i.toNat 0 then (i, 7) else cfBad l d (i + 1)
theorem knellref03_least.quiet (i : Int) (h0 : 0 ≤ i) (h1 : i < 13) (w : World) : Calls Try.prog 79 #[.int .i64 i] w fun e w' => e = .returned (.int .i64 (cfLeast i)) ∧ w' = w := by
 rcases thirteen h0 h1 with rfl | rfl | rfl | rfl | rfl | rfl | rfl | rfl | rfl | rfl | rfl | rfl | rfl
 all_goals
  go_enter Try.func79, Try.ntmps79
  go_wp2
  go_ret
  exact ⟨rfl, rfl⟩
theorem knellref03_most.quiet (i : Int) (h0 : 0 ≤ i) (h1 : i < 13) (w : World) : Calls Try.prog 80 #[.int .i64 i] w fun e w' => e = .returned (.int .i64 (cfMost i)) ∧ w' = w := by
 rcases thirteen h0 h1 with rfl | rfl | rfl | rfl | rfl | rfl | rfl | rfl | rfl | rfl | rfl | rfl | rfl
 all_goals
  go_enter Try.func80, Try.ntmps80
  go_wp2
  go_ret
  exact ⟨rfl, rfl⟩
theorem cfCells (cs : Array Value) (l : List Int) (hc : cs = (l.map (Value.int .i64)).toArray) (w : World) (t : TypeId) (i : Int) (h0 : 0 ≤ i) (h1 : i < l.length) :
  (w.alloc (.cells cs t)).cell? ⟨w.heap.size, i.toNat, none⟩ = some (.int .i64 (l.getD i.toNat 0)) := by
 subst hc
 have : i.toNat < l.length := by omega
 rw [World.cell?_alloc_new]
 simp [List.getD_eq_getElem?_getD, this]
set_option maxHeartbeats 1000000 in
theorem knellref03_Check.go (cs : Array Value) (l : List Int) (hl : l.length = 13) (hcs : cs = (l.map (Value.int .i64)).toArray) (w : World) :
  Calls Try.prog 60 #[.agg cs] w fun e w' => e = .returned (.tuple #[.int .i64 (cfBad l 13 0).1, .int .i64 (cfBad l 13 0).2]) ∧ Below w.heap.size w w' := by
 have hu := Try.underlying33
 have hn : cs.size = 13 := by rw [hcs]; simp [hl]
 have HX := Aside0.mk (cfCells cs l hcs w 33)
 have HL := Aside0.mk hl
 clear hcs hl
 go_enter Try.func60, Try.ntmps60
 go_wp2
 go_loopw [4] (fun v wr => ∃ i : Nat, v = .int .i64 (i : Int) ∧ Aside0 (i ≤ 13 ∧ cfBad l (13 - i) i = cfBad l 13 0 ∧ Below w.heap.size w wr ∧ ∀ a, wr.cell? a = (w.alloc (.cells cs 33)).cell? a)) (fun v _ => 13 - (intOf v).toNat)
 case atStart => exact ⟨0, rfl, ⟨by omega, rfl, (Below.refl _ _).alloc (Nat.le_refl _) _, fun _ => rfl⟩⟩
 case round =>
  obtain ⟨i, rfl, H⟩ := hrel
  have hle := H.out.1
  by_cases hlt : i < 13
  ·obtain ⟨x, hx'⟩ : ∃ x, x = l.getD i 0 := ⟨_, rfl⟩
   have hx : wr.cell? ⟨w.heap.size, i, none⟩ = some (.int .i64 x) := by
    rw [hx']
    exact (H.out.2.2.2 _).trans (HX.out (i : Int) (by omega) (by rw [HL.out]; omega))
   have HB : Aside0 (cfBad l (13 - i) i = if x < cfLeast i ∨ cfMost i < x then ((i : Int), 7) else cfBad l (12 - i) ((i : Int) + 1)) := ⟨by
    rw [show 13 - i = (12 - i) + 1 from by omega, cfBad, hx']; rfl⟩
   clear hx'
   have H0 : (0 : Int) ≤ i := by omega
   have H1 : (i : Int) < 13 := by omega
   obtain ⟨lo, hlo⟩ : ∃ lo, lo = cfLeast i := ⟨_, rfl⟩
   obtain ⟨hi, hhi⟩ : ∃ hi, hi = cfMost i := ⟨_, rfl⟩
   have L : ∀ W, Calls Try.prog 79 #[.int .i64 (i : Int)] W fun e w' => e = .returned (.int .i64 lo) ∧ w' = W := fun W => by rw [hlo]; exact knellref03_least.quiet _ H0 H1 W
   have M : ∀ W, Calls Try.prog 80 #[.int .i64 (i : Int)] W fun e w' => e = .returned (.int .i64 hi) ∧ w' = W := fun W => by rw [hhi]; exact knellref03_most.quiet _ H0 H1 W
   rw [← hlo, ← hhi] at HB
   clear hlo hhi
   have L' := Aside0.mk L
   have M' := Aside0.mk M
   clear L M
   have hq := H.out.2.1
   rw [HB.out] at hq
   have HQ := Aside0.mk hq
   clear hq HB
   by_cases ha : x < lo
   ·have ca : decide (x < lo) = true := decide_eq_true ha
    have hq := HQ.out
    rw [if_pos (.inl ha)] at hq
    have HR := Aside0.mk hq
    clear ha hq HQ
    go_wp2
    go_quiet ((first | (go_at_call 79; exact Calls.quiet_of_same (L'.out _)) | (go_at_call 80; exact Calls.quiet_of_same (M'.out _))))
    go_wp2
    go_ret2
    exact ⟨by rw [← HR.out]; rfl, pw_below_drewN H.out.2.2.1 _⟩
   ·have ca : decide (x < lo) = false := decide_eq_false ha
    by_cases hb : hi < x
    ·have cb : decide (hi < x) = true := decide_eq_true hb
     have hq := HQ.out
     rw [if_pos (.inr hb)] at hq
     have HR := Aside0.mk hq
     clear ha hb hq HQ
     go_wp2
     go_quiet ((first | (go_at_call 79; exact Calls.quiet_of_same (L'.out _)) | (go_at_call 80; exact Calls.quiet_of_same (M'.out _))))
     go_wp2
     go_ret2
     exact ⟨by rw [← HR.out]; rfl, pw_below_drewN H.out.2.2.1 _⟩
    ·have cb : decide (hi < x) = false := decide_eq_false hb
     have hq := HQ.out
     rw [if_neg (by rintro (h | h) <;> omega)] at hq
     have HR := Aside0.mk hq
     clear ha hb hq HQ
     go_wp2
     go_quiet ((first | (go_at_call 79; exact Calls.quiet_of_same (L'.out _)) | (go_at_call 80; exact Calls.quiet_of_same (M'.out _))))
     go_wp2
     go_roundw
     case rel => exact ⟨i + 1, by go_num, ⟨by omega, by rw [show 13 - (i + 1) = 12 - i from by omega]; exact HR.out, pw_below_drewN H.out.2.2.1 _, fun a => H.out.2.2.2 a⟩⟩
     case measure => simp [intOf]; omega
  ·have hq := H.out.2.1
   rw [show 13 - i = 0 from by omega, cfBad] at hq
   have HR := Aside0.mk hq
   have c0 : decide ((i : Int) < 13) = false := by simp; omega
   clear hq hlt hle
   go_wp2
   go_ret2
   exact ⟨by rw [← HR.out]; rfl, H.out.2.2.1⟩
theorem cfThirteen (l : List Int) (hl : l.length = 13) : ∃ c0 c1 c2 c3 c4 c5 c6 c7 c8 c9 c10 c11 c12, l = [c0, c1, c2, c3, c4, c5, c6, c7, c8, c9, c10, c11, c12] := by
 match l, hl with
 | [c0, c1, c2, c3, c4, c5, c6, c7, c8, c9, c10, c11, c12], _ => exact ⟨_, _, _, _, _, _, _, _, _, _, _, _, _, rfl⟩
theorem plan_List.go (l : List Int) (hl : l.length = 13) (w : World) :
  Calls Try.prog 81 #[.agg (l.map (Value.int .i64)).toArray] w fun e w' => e = .returned (.agg (l.map (Value.int .i64)).toArray) ∧ Below w.heap.size w w' := by
 obtain ⟨c0, c1, c2, c3, c4, c5, c6, c7, c8, c9, c10, c11, c12, rfl⟩ := cfThirteen l hl
 have hu32 := Try.underlying32
 have hu36 := Try.underlying36
 clear hl
 simp only [List.map_cons, List.map_nil]
 go_enter Try.func81, Try.ntmps81
 go_wp2
 refine bodyPost_ret (v := .agg #[.int .i64 c0, .int .i64 c1, .int .i64 c2, .int .i64 c3, .int .i64 c4, .int .i64 c5, .int .i64 c6, .int .i64 c7, .int .i64 c8, .int .i64 c9, .int .i64 c10, .int .i64 c11, .int .i64 c12]) (by simp [results, Try.results81, go_sem]) rfl ⟨rfl, ?_⟩
 repeat (first | exact Below.refl _ _ | apply below_alloc)
def cfSpans : Array Value := #[.int .i64 1, .int .i64 64, .int .i64 1, .int .i64 8, .int .i64 1, .int .i64 6, .int .i64 1, .int .i64 4096, .int .i64 1, .int .i64 8192, .int .i64 0, .int .i64 1073741823, .int .i64 0, .int .i64 4294967295, .int .i64 0, .int .i64 256, .int .i64 1, .int .i64 1073741823, .int .i64 1, .int .i64 1073741823, .int .i64 1, .int .i64 1073741823, .int .i64 0, .int .i64 1073741823, .int .i64 0, .int .i64 31]
theorem cfSpanCells (i : Int) (h0 : 0 ≤ i) (h1 : i < 13) : cfSpans[i.toNat * 2]? = some (.int .i64 (cfLeast i)) ∧ cfSpans[i.toNat * 2 + 1]? = some (.int .i64 (cfMost i)) := by
 rcases thirteen h0 h1 with rfl | rfl | rfl | rfl | rfl | rfl | rfl | rfl | rfl | rfl | rfl | rfl | rfl <;> exact ⟨rfl, rfl⟩
set_option maxRecDepth 100000 in
theorem cfIndex (l : List Int) (hl : l.length = 13) (i : Nat) (hi : i < 13) (w : World) :
  (Instr.index 32 (.agg (l.map (Value.int .i64)).toArray) (.int .i64 (i : Int))).run Try.prog w = .ok (.int .i64 (l.getD i 0)) w := by
 obtain ⟨c0, c1, c2, c3, c4, c5, c6, c7, c8, c9, c10, c11, c12, rfl⟩ := cfThirteen l hl
 have : i = 0 ∨ i = 1 ∨ i = 2 ∨ i = 3 ∨ i = 4 ∨ i = 5 ∨ i = 6 ∨ i = 7 ∨ i = 8 ∨ i = 9 ∨ i = 10 ∨ i = 11 ∨ i = 12 := by omega
 simp only [List.map_cons, List.map_nil]
 rcases this with rfl | rfl | rfl | rfl | rfl | rfl | rfl | rfl | rfl | rfl | rfl | rfl | rfl <;> rfl
theorem gate_load {P : Program} {ops : Array Oper} {o : Oper} {rest : List Oper} {a : Act} {Q : Exit → Act → World → Prop} {W : World} {t : TypeId} {p : Tmp} (_ho : o.op = .load t (.tmp p)) (h : wpList P ops Q (o :: rest) a W) : wpList P ops Q (o :: rest) a W := h
theorem heap_one (w : World) (o1 o2 : Obj) (cs : Array Value) : (((w.alloc o1).alloc o2).setRow (w.heap.size + 1) cs).heap[w.heap.size]? = some o1 := by
 rw [setRow_other _ _ _ _ (by omega), Below.heap_alloc _ _ _ (by simp)]
 exact heap_alloc_new w o1
theorem heap_two (w : World) (o1 o2 : Obj) : ((w.alloc o1).alloc o2).heap[w.heap.size + 1]? = some o2 := by
 have := heap_alloc_new (w.alloc o1) o2
 simpa using this
set_option maxHeartbeats 1000000 in
set_option maxRecDepth 100000 in
theorem plan_Check.go (l : List Int) (hl : l.length = 13) (w : World) :
  Calls Try.prog 62 #[.agg (l.map (Value.int .i64)).toArray] w fun e w' => e = .returned (.tuple #[.int .i64 (cfBad l 13 0).1, .int .i64 (cfBad l 13 0).2]) ∧ Below w.heap.size w w' := by
 have hu36 := Try.underlying36
 have hu131 := Try.underlying131
 have hu132 := Try.underlying132
 have HX := Aside0.mk (fun i hi w => cfIndex l hl i hi w)
 have HG := Aside0.mk (fun w => plan_List.go l hl w)
 obtain ⟨c0, c1, c2, c3, c4, c5, c6, c7, c8, c9, c10, c11, c12, e⟩ := cfThirteen l hl
 rw [e] at HX HG ⊢
 have HE := Aside0.mk e
 clear hl e
 simp only [List.map_cons, List.map_nil] at HX HG ⊢
 go_enter Try.func62, Try.ntmps62
 go_wp2_with (first | ((with_reducible refine gate_store (t := 132) rfl ?_); refine wpList_store_row rfl 132 _ _ rfl (w.heap.size + 1) cfSpans rfl rfl 132 _ (heap_two _ _ _) (by kernel_rfl) (by kernel_rfl) (by kernel_rfl) ?_) | ((with_reducible refine gate_load (t := 36) rfl ?_); refine wpList_load_row rfl 36 _ rfl w.heap.size rfl 36 _ (0, 0) _ (heap_one _ _ _ _) hu36 rfl (by kernel_rfl) ?_) | fail)
 (with_reducible refine (HG.out _).mono ?_)
 rintro e w1 ⟨rfl, hb⟩
 have HC : Aside0 (∀ i : Int, 0 ≤ i → i < 13 → w1.cell? ⟨w.heap.size + 1, i.toNat * 2, none⟩ = some (.int .i64 (cfLeast i)) ∧ w1.cell? ⟨w.heap.size + 1, i.toNat * 2 + 1, none⟩ = some (.int .i64 (cfMost i))) := ⟨fun i h0 h1 => by
  have hc := cfSpanCells i h0 h1
  rw [hb.cell (by simp), hb.cell (by simp), cell_setRow_same _ _ _ _ _ _ _ (heap_two _ _ _), cell_setRow_same _ _ _ _ _ _ _ (heap_two _ _ _)]
  exact hc⟩
 have HB : Aside0 (Below w.heap.size w w1) := ⟨below_then (below_setRow (below_alloc (below_alloc (Below.refl _ _) _) _) (by omega) _) (by simp; omega) hb⟩
 clear hb
 go_wp2_with fail
 obtain ⟨cv, hcv⟩ : ∃ cv : Value, cv = .agg #[.int .i64 c0, .int .i64 c1, .int .i64 c2, .int .i64 c3, .int .i64 c4, .int .i64 c5, .int .i64 c6, .int .i64 c7, .int .i64 c8, .int .i64 c9, .int .i64 c10, .int .i64 c11, .int .i64 c12] := ⟨_, rfl⟩
 rw [← hcv] at HX ⊢
 clear hcv HG
 go_loopw [23] (fun v wr => ∃ i : Nat, v = .int .i64 (i : Int) ∧ Aside0 (i ≤ 13 ∧ cfBad l (13 - i) i = cfBad l 13 0 ∧ Below w.heap.size w wr ∧ ∀ a, wr.cell? a = w1.cell? a)) (fun v _ => 13 - (intOf v).toNat)
 case atStart => exact ⟨0, rfl, ⟨by omega, rfl, HB.out, fun _ => rfl⟩⟩
 case round =>
  obtain ⟨i, rfl, H⟩ := hrel
  have hle := H.out.1
  by_cases hlt : i < 13
  ·obtain ⟨x, hx'⟩ : ∃ x, x = l.getD i 0 := ⟨_, rfl⟩
   have hx : ∀ W, (Instr.index 32 cv (.int .i64 (i : Int))).run Try.prog W = .ok (.int .i64 x) W := fun W => by
    rw [hx', HE.out]
    exact HX.out i hlt W
   have HQ0 : Aside0 (cfBad l (13 - i) i = if x < cfLeast i ∨ cfMost i < x then ((i : Int), 7) else cfBad l (12 - i) ((i : Int) + 1)) := ⟨by
    rw [show 13 - i = (12 - i) + 1 from by omega, cfBad, hx']; rfl⟩
   clear hx'
   have H0 : (0 : Int) ≤ i := by omega
   have H1 : (i : Int) < 13 := by omega
   obtain ⟨lo, hlo⟩ : ∃ lo, lo = cfLeast i := ⟨_, rfl⟩
   obtain ⟨hi, hhi⟩ : ∃ hi, hi = cfMost i := ⟨_, rfl⟩
   have hc := HC.out (i : Int) H0 H1
   rw [← hlo, ← hhi] at hc HQ0
   obtain ⟨hc1, hc2⟩ := hc
   have hl1 : wr.cell? ⟨w.heap.size + 1, i * 2, none⟩ = some (.int .i64 lo) := (H.out.2.2.2 _).trans hc1
   have hl2 : wr.cell? ⟨w.heap.size + 1, i * 2 + 1, none⟩ = some (.int .i64 hi) := (H.out.2.2.2 _).trans hc2
   clear hlo hhi hc1 hc2
   have hq := H.out.2.1
   rw [HQ0.out] at hq
   have HQ := Aside0.mk hq
   clear hq HQ0
   by_cases ha : x < lo
   ·have ca : decide (x < lo) = true := decide_eq_true ha
    have hq := HQ.out
    rw [if_pos (.inl ha)] at hq
    have HR := Aside0.mk hq
    clear ha hq HQ
    go_wp2
    go_ret2
    exact ⟨by rw [← HE.out, ← HR.out]; rfl, H.out.2.2.1⟩
   ·have ca : decide (x < lo) = false := decide_eq_false ha
    by_cases hb : hi < x
    ·have cb : decide (hi < x) = true := decide_eq_true hb
     have hq := HQ.out
     rw [if_pos (.inr hb)] at hq
     have HR := Aside0.mk hq
     clear ha hb hq HQ
     go_wp2
     go_ret2
     exact ⟨by rw [← HE.out, ← HR.out]; rfl, H.out.2.2.1⟩
    ·have cb : decide (hi < x) = false := decide_eq_false hb
     have hq := HQ.out
     rw [if_neg (by rintro (h | h) <;> omega)] at hq
     have HR := Aside0.mk hq
     clear ha hb hq HQ
     go_wp2
     go_roundw
     case rel => exact ⟨i + 1, by go_num, ⟨by omega, by rw [show 13 - (i + 1) = 12 - i from by omega]; exact HR.out, H.out.2.2.1, H.out.2.2.2⟩⟩
     case measure => simp [intOf]; omega
  ·have hq := H.out.2.1
   rw [show 13 - i = 0 from by omega, cfBad] at hq
   have HR := Aside0.mk hq
   have ct : decide ((i : Int) < 13) = false := by simp; omega
   clear hq hlt hle
   go_wp2
   go_ret2
   exact ⟨by rw [← HE.out, ← HR.out]; rfl, H.out.2.2.1⟩
end Go.Proofs.Ythljanmfanppdaa.Kw
end
section
namespace Go.Proofs.Ythljanmfanppdaa.KBack
open Go.RowKit Go.Proofs.YthljanmfanppdaaW.PrintWords Go.Proofs.YthljanmfanppdaaW.PrintLast Go.Proofs.YthljanmfanppdaaW.PrintMore
attribute [local go_sem] max2_int min2_int max_two min_two max_three min_three max_four min_four   -- for this text's walks alone
set_option linter.unusedVariables false
set_option linter.unusedSimpArgs false
def errW : Option Int → Value
 | none => .nilIface
 | some c => .iface 0 (.int .i64 c)
theorem errW_none : errW none = .nilIface := rfl
theorem errW_some (c : Int) : errW (some c) = .iface 0 (.int .i64 c) := rfl
end Go.Proofs.Ythljanmfanppdaa.KBack
end
section
set_option maxHeartbeats 8000000
set_option maxRecDepth 100000
namespace Go.Proofs.Ythljanmfanppdaa.KBack
open Go.RowKit Go.Proofs.YthljanmfanppdaaW.PrintWords Go.Proofs.YthljanmfanppdaaW.PrintLast Go.Proofs.YthljanmfanppdaaW.PrintMore
attribute [local go_sem] max2_int min2_int max_two min_two max_three min_three max_four min_four   -- for this text's walks alone
set_option linter.unusedVariables false
set_option linter.unusedSimpArgs false
def round_clock.f (a0 : Int) : Option (Int) := some (mn (mx a0 0) 1073741823)
theorem round_clock.calls (a0 : Int) (r : Int) (w : World) (h : round_clock.f a0 = some r) :
  Calls Try.prog 59 #[.int .i64 a0] w fun e w' => e = .returned (.int .i64 r) ∧ Below w.heap.size w w' := by
 have HB := Aside0.mk (Below.refl w.heap.size w)
 have H : (some (mn (mx a0 0) 1073741823)) = some r := h
 clear h
 obtain ⟨ji2, hji2⟩ : ∃ j_ : Int, (mx a0 0) = j_ := ⟨_, rfl⟩
 replace H : (some (mn (ji2) 1073741823)) = some r := by first | (rw [hji2] at H; exact H) | (simp only [hji2] at H ⊢; exact H)
 (try (have hji2l : 0 ≤ ji2 := by (rw [← hji2]; unfold mx; (repeat' split) <;> omega)))
 (try (have hji2m : 0 ≤ ji2 := by omega))
 have hji2_ : (if a0 < 0 then 0 else a0) = ji2 := hji2
 obtain ⟨ji3, hji3⟩ : ∃ j_ : Int, (mn (ji2) 1073741823) = j_ := ⟨_, rfl⟩
 replace H : (some ji3) = some r := by first | (rw [hji3] at H; exact H) | (simp only [hji3] at H ⊢; exact H)
 have hji3_ : (if 1073741823 < (ji2) then 1073741823 else (ji2)) = ji3 := hji3
 obtain rfl := Option.some.inj H
 go_enter Try.func59, Try.ntmps59
 go_wp2
 go_ret
 exact ⟨by first | rfl | (simp [errW_none, errW_some] <;> rfl) | (simp only [← hji2, ← hji3]; first | rfl | (simp [errW_none, errW_some] <;> rfl)) | (simp [*, errW_none, errW_some] <;> rfl), by repeat (first | (with_reducible first | exact HB.out | apply below_alloc | apply pw_below_drewN | apply below_drew1) | exact HB.out)⟩
def round_Plus.l0 : Nat → Int → List Int → Int → Int → Option (Int)
 | 0, _, _, _, _ => none
 | k + 1, x3, x6, x7, x8 => if x8 < x7 then (if 0 ≤ x8 then (if x8 < (x6.length : Int) then ((round_clock.f (rd x6 x8)).bind fun t102 => ((round_clock.f (wrap64 (x3 + t102))).bind fun t103 => (round_Plus.l0 k t103 x6 x7 (wrap64 (x8 + 1))))) else (none)) else (none)) else (some x3)
def round_Plus.f (k : Nat) (l0 : List Int) : Option (Int) := round_Plus.l0 k 0 l0 (l0.length : Int) 0
theorem round_Plus.calls (k : Nat) (A0 : Option Addr) (c0 : Nat) (l0 : List Int) (r : Int) (w : World) (hr0 : Kd.C (Kd.int .i64) w A0 l0.length l0) (hc0 : l0.length ≤ c0) (h : round_Plus.f k l0 = some r) :
  Calls Try.prog 20 #[.slice A0 l0.length c0] w fun e w' => e = .returned (.int .i64 r) ∧ Below w.heap.size w w' := by
 have HR0 := Aside0.mk hr0
 have HC0 := Aside0.mk hc0
 clear hr0 hc0
 have HB := Aside0.mk (Below.refl w.heap.size w)
 have H : (round_Plus.l0 k 0 l0 (l0.length : Int) 0) = some r := h
 clear h
 have H' := Aside0.mk H
 clear H
 go_enter Try.func20, Try.ntmps20
 go_wp2
 go_loopg [3, 8] k (fun kq v3 v8 w' => ∃ (x3_1 : Int) (x8_1 : Int), v3 = .int .i64 x3_1 ∧ v8 = .int .i64 x8_1 ∧ Aside0 (round_Plus.l0 kq x3_1 l0 (l0.length : Int) x8_1 = some r) ∧ Aside0 (kq ≤ k) ∧ Aside0 (Below w.heap.size w w'))
 case atStart => exact ⟨(0), (0), (by first | rfl | (simp; done) | (simp [*]; done)), (by first | rfl | (simp; done) | (simp [*]; done)), H', ⟨Nat.le_refl _⟩, ⟨by repeat (first | (with_reducible first | exact HB.out | apply below_alloc | apply pw_below_drewN | apply below_drew1) | exact HB.out)⟩⟩
 case round =>
  clear H'
  obtain ⟨x3_1, x8_1, rfl, rfl, HA, HK1, HB⟩ := hrel
  cases gk with
  | zero => exact absurd HA.out (by simp [round_Plus.l0])
  | succ k1 =>
   have H := HA.out
   clear HA
   simp only [round_Plus.l0] at H
   by_cases c2 : x8_1 < (l0.length : Int)
   ·rw [if_pos c2] at H
    have c2b0 : decide (x8_1 < (l0.length : Int)) = true := decide_eq_true c2
    clear c2
    by_cases c3 : 0 ≤ x8_1
    ·rw [if_pos c3] at H
     have c3b0 : decide (0 ≤ x8_1) = true := decide_eq_true c3
     clear c3
     by_cases c4 : x8_1 < (l0.length : Int)
     ·rw [if_pos c4] at H
      have c4b0 : decide (x8_1 < (l0.length : Int)) = true := decide_eq_true c4
      clear c4
      replace H := Option.bind_eq_some_iff.mp H
      obtain ⟨t102, A50, H⟩ := H
      replace H : ((round_clock.f (wrap64 (x3_1 + t102))).bind fun t103 => (round_Plus.l0 k1 t103 l0 (l0.length : Int) (wrap64 (x8_1 + 1)))) = some r := H
      have A5 := Aside0.mk A50
      clear A50
      replace H := Option.bind_eq_some_iff.mp H
      obtain ⟨t103, A60, H⟩ := H
      replace H : (round_Plus.l0 k1 t103 l0 (l0.length : Int) (wrap64 (x8_1 + 1))) = some r := H
      have A6 := Aside0.mk A60
      clear A60
      have H' := Aside0.mk H
      clear H
      have p101 : 0 ≤ (x8_1 : Int) := of_decide_eq_true (by first | (with_reducible assumption) | assumption)
      have q101 : x8_1 < (l0.length : Int) := of_decide_eq_true (by first | (with_reducible assumption) | assumption)
      obtain ⟨ad101, e101, hx101_0⟩ := Kd.at_int HR0.out x8_1 p101 q101
      cases e101
      replace hx101_0 := (HB.out.cell (World.block_lt_of_cell? w _ hx101_0)).trans hx101_0
      replace p101 := eq_true p101
      replace q101 := eq_true q101
      go_wp2_with (first | ((with_reducible refine gate_callee (f := 59) rfl ?_); refine goesL_ (some 14) rfl rfl Try.func59 (by kernel_rfl) rfl #[.int .i64 (rd l0 x8_1)] rfl (by (try simp only [List.map_toArray, List.map_cons, List.map_nil]); first | done | rfl | (simp only [List.length_drop, List.length_take]; rfl)) ?_; (with_reducible refine (round_clock.calls (rd l0 x8_1) t102 _ A5.out).mono ?_); rintro e w7 ⟨rfl, hb⟩; refine ⟨_, rfl, ?_⟩; have n0_ := Aside0.mk (below_step (by repeat (first | (with_reducible first | exact HB.out | apply below_alloc | apply pw_below_drewN | apply below_drew1) | exact HB.out)) hb); clear HB; have HB := n0_; clear n0_; (try clear hb); (try clear hb2); (try clear hk); (try clear hi)) | ((with_reducible refine gate_callee (f := 59) rfl ?_); refine goesL_ (some 16) rfl rfl Try.func59 (by kernel_rfl) rfl #[.int .i64 (wrap64 (x3_1 + t102))] rfl (by (try simp only [List.map_toArray, List.map_cons, List.map_nil]); first | done | rfl | (simp only [List.length_drop, List.length_take]; rfl)) ?_; (with_reducible refine (round_clock.calls (wrap64 (x3_1 + t102)) t103 _ A6.out).mono ?_); rintro e w8 ⟨rfl, hb⟩; refine ⟨_, rfl, ?_⟩; have n0_ := Aside0.mk (below_step (by repeat (first | (with_reducible first | exact HB.out | apply below_alloc | apply pw_below_drewN | apply below_drew1) | exact HB.out)) hb); clear HB; have HB := n0_; clear n0_; (try clear hb); (try clear hb2); (try clear hk); (try clear hi)))
      go_roundg k1
      case measure => have := HK1.out; omega
      case rel => exact ⟨(t103), (wrap64 (x8_1 + 1)), (by first | rfl | (simp; done) | (simp [*]; done)), (by first | rfl | (simp; done) | (simp [*]; done)), H', ⟨by have := HK1.out; omega⟩, ⟨by repeat (first | (with_reducible first | exact HB.out | apply below_alloc | apply pw_below_drewN | apply below_drew1) | exact HB.out)⟩⟩
     ·rw [if_neg c4] at H
      exact absurd H (by simp)
    ·rw [if_neg c3] at H
     exact absurd H (by simp)
   ·rw [if_neg c2] at H
    have c2b0 : decide (x8_1 < (l0.length : Int)) = false := decide_eq_false c2
    clear c2
    obtain rfl := Option.some.inj H
    go_wp2
    go_ret
    exact ⟨by first | rfl | (simp [errW_none, errW_some] <;> rfl) | (simp [*, errW_none, errW_some] <;> rfl), by repeat (first | (with_reducible first | exact HB.out | apply below_alloc | apply pw_below_drewN | apply below_drew1) | exact HB.out)⟩
def backoff_Wait.l0 : Nat → Int → Int → Int → Int → Option (Int)
 | 0, _, _, _, _ => none
 | k + 1, x0, x1, x15, x16 => if x16 < x15 then (backoff_Wait.l0 k (mn (wrap64 (x0 * 2)) 1073741823) x1 x15 (wrap64 (x16 + 1))) else (some (mn x0 x1))
def backoff_Wait.f (k : Nat) (a0 : Int) (a1 : Int) (a2 : Int) : Option (Int) := (round_Plus.f k (([a0] : List Int))).bind fun t107 => ((round_Plus.f k (([a1] : List Int))).bind fun t111 => (backoff_Wait.l0 k t107 t111 (mn (mx a2 0) 31) 0))
theorem backoff_Wait.calls (k : Nat) (a0 : Int) (a1 : Int) (a2 : Int) (r : Int) (w : World) (h : backoff_Wait.f k a0 a1 a2 = some r) :
  Calls Try.prog 25 #[.int .i64 a0, .int .i64 a1, .int .i64 a2] w fun e w' => e = .returned (.int .i64 r) ∧ Below w.heap.size w w' := by
 have HB := Aside0.mk (Below.refl w.heap.size w)
 have H : ((round_Plus.f k (([a0] : List Int))).bind fun t107 => ((round_Plus.f k (([a1] : List Int))).bind fun t111 => (backoff_Wait.l0 k t107 t111 (mn (mx a2 0) 31) 0))) = some r := h
 clear h
 obtain ⟨y104, hy104⟩ : ∃ y_ : List Int, y_ = (([a0] : List Int)) := ⟨_, rfl⟩
 replace H : ((round_Plus.f k y104).bind fun t107 => ((round_Plus.f k (([a1] : List Int))).bind fun t111 => (backoff_Wait.l0 k t107 t111 (mn (mx a2 0) 31) 0))) = some r := by first | (rw [hy104]; with_reducible exact H) | (have H2_ := (Option.bind_some _ _).symm.trans H; rw [hy104]; with_reducible exact H2_) | (have H2_ := (Option.bind_some _ _).symm.trans H; with_reducible exact H2_) | with_reducible exact H | (rw [hy104]; exact H) | exact H
 have Ny104 := Aside0.mk hy104
 clear hy104
 replace H := Option.bind_eq_some_iff.mp H
 obtain ⟨t107, A40, H⟩ := H
 replace H : ((round_Plus.f k (([a1] : List Int))).bind fun t111 => (backoff_Wait.l0 k t107 t111 (mn (mx a2 0) 31) 0)) = some r := H
 have A4 := Aside0.mk A40
 clear A40
 obtain ⟨y108, hy108⟩ : ∃ y_ : List Int, y_ = (([a1] : List Int)) := ⟨_, rfl⟩
 replace H : ((round_Plus.f k y108).bind fun t111 => (backoff_Wait.l0 k t107 t111 (mn (mx a2 0) 31) 0)) = some r := by first | (rw [hy108]; with_reducible exact H) | (have H2_ := (Option.bind_some _ _).symm.trans H; rw [hy108]; with_reducible exact H2_) | (have H2_ := (Option.bind_some _ _).symm.trans H; with_reducible exact H2_) | with_reducible exact H | (rw [hy108]; exact H) | exact H
 have Ny108 := Aside0.mk hy108
 clear hy108
 replace H := Option.bind_eq_some_iff.mp H
 obtain ⟨t111, A50, H⟩ := H
 replace H : (backoff_Wait.l0 k t107 t111 (mn (mx a2 0) 31) 0) = some r := H
 have A5 := Aside0.mk A50
 clear A50
 obtain ⟨ji6, hji6⟩ : ∃ j_ : Int, (mx a2 0) = j_ := ⟨_, rfl⟩
 replace H : (backoff_Wait.l0 k t107 t111 (mn (ji6) 31) 0) = some r := by first | (rw [hji6] at H; exact H) | (simp only [hji6] at H ⊢; exact H)
 (try rw [hji6] at A4)
 (try rw [hji6] at A5)
 (try (have hji6l : 0 ≤ ji6 := by (rw [← hji6]; unfold mx; (repeat' split) <;> omega)))
 (try (have hji6m : 0 ≤ ji6 := by omega))
 have hji6_ : (if a2 < 0 then 0 else a2) = ji6 := hji6
 obtain ⟨ji7, hji7⟩ : ∃ j_ : Int, (mn (ji6) 31) = j_ := ⟨_, rfl⟩
 replace H : (backoff_Wait.l0 k t107 t111 ji7 0) = some r := by first | (rw [hji7] at H; exact H) | (simp only [hji7] at H ⊢; exact H)
 (try rw [hji7] at A4)
 (try rw [hji7] at A5)
 have hji7_ : (if 31 < (ji6) then 31 else (ji6)) = ji7 := hji7
 have H' := Aside0.mk H
 clear H
 go_enter Try.func25, Try.ntmps25
 go_wp2_with (first | ((with_reducible refine gate_dst (N := 8) rfl ?_); refine Kd.R_lit (Kd.int .i64) _ 3 ?hg (N := 8) ?hd (xs := ([a0] : List Int)) (inner := [.int .i64 a0]) (ok := fun _ => True) (okp := fun _ => True) ?hr ?hp (fun _ hk => hk) trivial (Below.refl _ _) (Nat.le_refl _) (by simp) ?_; (case hd => rfl); (case hg => rfl); (case hr => first | (go_simp; done) | (go_simp; rfl)); (case hp => exact (Reps.one (show Kd.M (Kd.int .i64) _ _ _ a0 [.int .i64 a0] from rfl) (Reps.none _ _))); intro v105 w8 ho9 hb hg_ hnew_; clear hg_ hnew_; (first | rw [← Ny104.out] at ho9 | (simp only [Int.reduceToNat] at ho9; rw [← Ny104.out] at ho9)); have n0_ := Aside0.mk (Kd.R_lower ho9 (below_size (by repeat (first | (with_reducible first | exact HB.out | apply below_alloc | apply pw_below_drewN | apply below_drew1) | exact HB.out)))); have n1_ := Aside0.mk (below_step (by repeat (first | (with_reducible first | exact HB.out | apply below_alloc | apply pw_below_drewN | apply below_drew1) | exact HB.out)) hb); clear HB; have HO106 := n0_; have HB := n1_; clear n0_ n1_; clear hb ho9; obtain ⟨Ao10, co10, eo10⟩ := Kd.R_slice HO106.out; subst eo10) | ((with_reducible refine gate_callee (f := 20) rfl ?_); refine goesL_ (some 9) rfl rfl Try.func20 (by kernel_rfl) rfl #[.slice Ao10 y104.length co10] rfl (by (try simp only [List.map_toArray, List.map_cons, List.map_nil]); first | done | rfl | (simp only [List.length_drop, List.length_take]; rfl)) ?_; (with_reducible refine (round_Plus.calls k _ _ y104 t107 _ ?side1 ?side2 A4.out).mono ?_); (case side1 => repeat (first | exact (Kd.R_reads' HO106.out).2.2 | (with_reducible refine Kd.C_alloc ?_ _) | (with_reducible refine Kd.C_drewN ?_ _) | (with_reducible refine Kd.C_drew ?_))); (case side2 => exact (Kd.R_reads' HO106.out).2.1); rintro e w11 ⟨rfl, hb⟩; refine ⟨_, rfl, ?_⟩; have n0_ := Aside0.mk (Kd.R_below (by (with_reducible repeat (first | apply Kd.R_alloc | apply Kd.R_drewN | apply Kd.R_drew)); exact HO106.out) hb); have n1_ := Aside0.mk (below_step (by repeat (first | (with_reducible first | exact HB.out | apply below_alloc | apply pw_below_drewN | apply below_drew1) | exact HB.out)) hb); clear HO106; clear HB; have HO106 := n0_; have HB := n1_; clear n0_ n1_; (try clear hb); (try clear hb2); (try clear hk); (try clear hi)) | ((with_reducible refine gate_dst (N := 11) rfl ?_); refine Kd.R_lit (Kd.int .i64) _ 3 ?hg (N := 11) ?hd (xs := ([a1] : List Int)) (inner := [.int .i64 a1]) (ok := fun _ => True) (okp := fun _ => True) ?hr ?hp (fun _ hk => hk) trivial (Below.refl _ _) (Nat.le_refl _) (by simp) ?_; (case hd => rfl); (case hg => rfl); (case hr => first | (go_simp; done) | (go_simp; rfl)); (case hp => exact (Reps.one (show Kd.M (Kd.int .i64) _ _ _ a1 [.int .i64 a1] from rfl) (Reps.none _ _))); intro v109 w12 ho13 hb hg_ hnew_; clear hg_ hnew_; (first | rw [← Ny108.out] at ho13 | (simp only [Int.reduceToNat] at ho13; rw [← Ny108.out] at ho13)); have n0_ := Aside0.mk (Kd.R_elder' (by (with_reducible repeat (first | apply Kd.R_alloc | apply Kd.R_drewN | apply Kd.R_drew)); exact HO106.out) (Kd.R_base ho13) hb); have n1_ := Aside0.mk (Kd.R_lower (Kd.R_new' ho13 (Kd.R_lt (by (with_reducible repeat (first | apply Kd.R_alloc | apply Kd.R_drewN | apply Kd.R_drew)); exact HO106.out))) (below_size (by repeat (first | (with_reducible first | exact HB.out | apply below_alloc | apply pw_below_drewN | apply below_drew1) | exact HB.out)))); have n2_ := Aside0.mk (below_step (by repeat (first | (with_reducible first | exact HB.out | apply below_alloc | apply pw_below_drewN | apply below_drew1) | exact HB.out)) hb); clear HO106; clear HB; have HO106 := n0_; have HO110 := n1_; have HB := n2_; clear n0_ n1_ n2_; clear hb ho13; obtain ⟨Ao14, co14, eo14⟩ := Kd.R_slice HO110.out; subst eo14) | ((with_reducible refine gate_callee (f := 20) rfl ?_); refine goesL_ (some 12) rfl rfl Try.func20 (by kernel_rfl) rfl #[.slice Ao14 y108.length co14] rfl (by (try simp only [List.map_toArray, List.map_cons, List.map_nil]); first | done | rfl | (simp only [List.length_drop, List.length_take]; rfl)) ?_; (with_reducible refine (round_Plus.calls k _ _ y108 t111 _ ?side1 ?side2 A5.out).mono ?_); (case side1 => repeat (first | exact (Kd.R_reads' HO110.out).2.2 | (with_reducible refine Kd.C_alloc ?_ _) | (with_reducible refine Kd.C_drewN ?_ _) | (with_reducible refine Kd.C_drew ?_))); (case side2 => exact (Kd.R_reads' HO110.out).2.1); rintro e w15 ⟨rfl, hb⟩; refine ⟨_, rfl, ?_⟩; have n0_ := Aside0.mk (Kd.R_below (by (with_reducible repeat (first | apply Kd.R_alloc | apply Kd.R_drewN | apply Kd.R_drew)); exact HO106.out) hb); have n1_ := Aside0.mk (Kd.R_below (by (with_reducible repeat (first | apply Kd.R_alloc | apply Kd.R_drewN | apply Kd.R_drew)); exact HO110.out) hb); have n2_ := Aside0.mk (below_step (by repeat (first | (with_reducible first | exact HB.out | apply below_alloc | apply pw_below_drewN | apply below_drew1) | exact HB.out)) hb); clear HO106; clear HO110; clear HB; have HO106 := n0_; have HO110 := n1_; have HB := n2_; clear n0_ n1_ n2_; (try clear hb); (try clear hb2); (try clear hk); (try clear hi)))
 go_loopg [0, 16] k (fun kq v0 v16 w' => ∃ (x0_1 : Int) (x16_1 : Int), v0 = .int .i64 x0_1 ∧ v16 = .int .i64 x16_1 ∧ Aside0 (backoff_Wait.l0 kq x0_1 t111 ji7 x16_1 = some r) ∧ Aside0 (kq ≤ k) ∧ Aside0 (Below w.heap.size w w'))
 case atStart => exact ⟨(t107), (0), (by first | rfl | (simp; done) | (simp [*]; done)), (by first | rfl | (simp; done) | (simp [*]; done)), H', ⟨Nat.le_refl _⟩, ⟨by repeat (first | (with_reducible first | exact HB.out | apply below_alloc | apply pw_below_drewN | apply below_drew1) | exact HB.out)⟩⟩
 case round =>
  clear H'
  try clear c2
  try clear p2
  obtain ⟨x0_1, x16_1, rfl, rfl, HA, HK1, HB⟩ := hrel
  cases gk with
  | zero => exact absurd HA.out (by simp [backoff_Wait.l0])
  | succ k1 =>
   have H := HA.out
   clear HA
   simp only [backoff_Wait.l0] at H
   by_cases c16 : x16_1 < ji7
   ·rw [if_pos c16] at H
    have c16b0 : decide (x16_1 < ji7) = true := decide_eq_true c16
    clear c16
    obtain ⟨ji17, hji17⟩ : ∃ j_ : Int, (mn (wrap64 (x0_1 * 2)) 1073741823) = j_ := ⟨_, rfl⟩
    replace H : (backoff_Wait.l0 k1 ji17 t111 ji7 (wrap64 (x16_1 + 1))) = some r := by first | (rw [hji17] at H; exact H) | (simp only [hji17] at H ⊢; exact H)
    have hji17_ : (if 1073741823 < (wrap64 (x0_1 * 2)) then 1073741823 else (wrap64 (x0_1 * 2))) = ji17 := hji17
    have H' := Aside0.mk H
    clear H
    go_wp2
    go_roundg k1
    case measure => have := HK1.out; omega
    case rel => exact ⟨(ji17), (wrap64 (x16_1 + 1)), (by first | rfl | (simp; done) | (simp only [← hji17] <;> (first | rfl | simp)) | (simp [*]; done)), (by first | rfl | (simp; done) | (simp [*]; done)), H', ⟨by have := HK1.out; omega⟩, ⟨by repeat (first | (with_reducible first | exact HB.out | apply below_alloc | apply pw_below_drewN | apply below_drew1) | exact HB.out)⟩⟩
   ·rw [if_neg c16] at H
    have c16b0 : decide (x16_1 < ji7) = false := decide_eq_false c16
    clear c16
    obtain ⟨ji18, hji18⟩ : ∃ j_ : Int, (mn x0_1 t111) = j_ := ⟨_, rfl⟩
    replace H : (some ji18) = some r := by first | (rw [hji18] at H; exact H) | (simp only [hji18] at H ⊢; exact H)
    have hji18_ : (if t111 < x0_1 then t111 else x0_1) = ji18 := hji18
    obtain rfl := Option.some.inj H
    go_wp2
    go_ret
    exact ⟨by first | rfl | (simp [errW_none, errW_some] <;> rfl) | (simp only [← hji6, ← hji7, ← hji18]; first | rfl | (simp [errW_none, errW_some] <;> rfl)) | (simp [*, errW_none, errW_some] <;> rfl), by repeat (first | (with_reducible first | exact HB.out | apply below_alloc | apply pw_below_drewN | apply below_drew1) | exact HB.out)⟩
def knellref03_Check.f (a0_0 : Int) (a0_1 : Int) (a0_2 : Int) (a0_3 : Int) (a0_4 : Int) (a0_5 : Int) (a0_6 : Int) (a0_7 : Int) (a0_8 : Int) (a0_9 : Int) (a0_10 : Int) (a0_11 : Int) (a0_12 : Int) : Option (Int × Int) := some (Go.Proofs.Ythljanmfanppdaa.Kw.cfBad [a0_0, a0_1, a0_2, a0_3, a0_4, a0_5, a0_6, a0_7, a0_8, a0_9, a0_10, a0_11, a0_12] 13 0)
theorem knellref03_Check.calls (a0_0 : Int) (a0_1 : Int) (a0_2 : Int) (a0_3 : Int) (a0_4 : Int) (a0_5 : Int) (a0_6 : Int) (a0_7 : Int) (a0_8 : Int) (a0_9 : Int) (a0_10 : Int) (a0_11 : Int) (a0_12 : Int) (r1 : Int) (r2 : Int) (w : World) (h : knellref03_Check.f a0_0 a0_1 a0_2 a0_3 a0_4 a0_5 a0_6 a0_7 a0_8 a0_9 a0_10 a0_11 a0_12 = some (r1, r2)) :
  Calls Try.prog 60 #[.agg #[.int .i64 a0_0, .int .i64 a0_1, .int .i64 a0_2, .int .i64 a0_3, .int .i64 a0_4, .int .i64 a0_5, .int .i64 a0_6, .int .i64 a0_7, .int .i64 a0_8, .int .i64 a0_9, .int .i64 a0_10, .int .i64 a0_11, .int .i64 a0_12]] w fun e w' => e = .returned (.tuple #[.int .i64 r1, .int .i64 r2]) ∧ Below w.heap.size w w' := by
 have h1 := Go.Proofs.Ythljanmfanppdaa.Kw.knellref03_Check.go (cs := #[.int .i64 a0_0, .int .i64 a0_1, .int .i64 a0_2, .int .i64 a0_3, .int .i64 a0_4, .int .i64 a0_5, .int .i64 a0_6, .int .i64 a0_7, .int .i64 a0_8, .int .i64 a0_9, .int .i64 a0_10, .int .i64 a0_11, .int .i64 a0_12]) (l := [a0_0, a0_1, a0_2, a0_3, a0_4, a0_5, a0_6, a0_7, a0_8, a0_9, a0_10, a0_11, a0_12]) rfl (by simp) w
 have e := Option.some.inj h
 rw [e] at h1
 exact h1
def knellref03_Right.f (a0_0 : Int) (a0_1 : Int) (a0_2 : Int) (a0_3 : Int) (a0_4 : Int) (a0_5 : Int) (a0_6 : Int) (a0_7 : Int) (a0_8 : Int) (a0_9 : Int) (a0_10 : Int) (a0_11 : Int) (a0_12 : Int) : Option (Bool) := (knellref03_Check.f a0_0 a0_1 a0_2 a0_3 a0_4 a0_5 a0_6 a0_7 a0_8 a0_9 a0_10 a0_11 a0_12).bind fun bt116 => (some (bt116.2 == 0))
theorem knellref03_Right.calls (a0_0 : Int) (a0_1 : Int) (a0_2 : Int) (a0_3 : Int) (a0_4 : Int) (a0_5 : Int) (a0_6 : Int) (a0_7 : Int) (a0_8 : Int) (a0_9 : Int) (a0_10 : Int) (a0_11 : Int) (a0_12 : Int) (r : Bool) (w : World) (h : knellref03_Right.f a0_0 a0_1 a0_2 a0_3 a0_4 a0_5 a0_6 a0_7 a0_8 a0_9 a0_10 a0_11 a0_12 = some r) :
  Calls Try.prog 22 #[.agg #[.int .i64 a0_0, .int .i64 a0_1, .int .i64 a0_2, .int .i64 a0_3, .int .i64 a0_4, .int .i64 a0_5, .int .i64 a0_6, .int .i64 a0_7, .int .i64 a0_8, .int .i64 a0_9, .int .i64 a0_10, .int .i64 a0_11, .int .i64 a0_12]] w fun e w' => e = .returned (.bool r) ∧ Below w.heap.size w w' := by
 have hu33 := Try.underlying33
 have HB := Aside0.mk (Below.refl w.heap.size w)
 have H : ((knellref03_Check.f a0_0 a0_1 a0_2 a0_3 a0_4 a0_5 a0_6 a0_7 a0_8 a0_9 a0_10 a0_11 a0_12).bind fun bt116 => (some (bt116.2 == 0))) = some r := h
 clear h
 replace H := Option.bind_eq_some_iff.mp H
 obtain ⟨⟨t116, t117⟩, A20, H⟩ := H
 replace H : (some (t117 == 0)) = some r := H
 have A2 := Aside0.mk A20
 clear A20
 obtain rfl := Option.some.inj H
 go_enter Try.func22, Try.ntmps22
 go_wp2_with (first | ((with_reducible refine gate_dst (N := 1) rfl ?_); refine box_event ?hg (N := 1) ?hd (cs := #[.int .i64 a0_0, .int .i64 a0_1, .int .i64 a0_2, .int .i64 a0_3, .int .i64 a0_4, .int .i64 a0_5, .int .i64 a0_6, .int .i64 a0_7, .int .i64 a0_8, .int .i64 a0_9, .int .i64 a0_10, .int .i64 a0_11, .int .i64 a0_12]) (t := 33) ?hr ?_; (case hd => rfl); (case hg => rfl); (case hr => first | (go_simp; done) | (go_simp; rfl)); intro gb115 hg w3 hbox hb; have n0_ := Aside0.mk (below_step (by repeat (first | (with_reducible first | exact HB.out | apply below_alloc | apply pw_below_drewN | apply below_drew1) | exact HB.out)) hb); have n1_ := Aside0.mk (hbox); have n2_ := Aside0.mk ((by rw [hg]; exact (below_size (by repeat (first | (with_reducible first | exact HB.out | apply below_alloc | apply pw_below_drewN | apply below_drew1) | exact HB.out))) : w.heap.size ≤ gb115)); have n3_ := Aside0.mk ((by rw [hg]; exact (below_size (by repeat (first | (with_reducible first | exact HB.out | apply below_alloc | apply pw_below_drewN | apply below_drew1) | exact HB.out))) : w.heap.size ≤ gb115)); clear HB; have HB := n0_; have BK115 := n1_; have GW115 := n2_; have GE115 := n3_; clear n0_ n1_ n2_ n3_; clear hb hbox hg; have hcz4_0 : w3.cell? ⟨gb115, 0, none⟩ = some (.int .i64 a0_0) := (blk_cell BK115.out 0).trans rfl; have hcz4_1 : w3.cell? ⟨gb115, 1, none⟩ = some (.int .i64 a0_1) := (blk_cell BK115.out 1).trans rfl; have hcz4_2 : w3.cell? ⟨gb115, 2, none⟩ = some (.int .i64 a0_2) := (blk_cell BK115.out 2).trans rfl; have hcz4_3 : w3.cell? ⟨gb115, 3, none⟩ = some (.int .i64 a0_3) := (blk_cell BK115.out 3).trans rfl; have hcz4_4 : w3.cell? ⟨gb115, 4, none⟩ = some (.int .i64 a0_4) := (blk_cell BK115.out 4).trans rfl; have hcz4_5 : w3.cell? ⟨gb115, 5, none⟩ = some (.int .i64 a0_5) := (blk_cell BK115.out 5).trans rfl; have hcz4_6 : w3.cell? ⟨gb115, 6, none⟩ = some (.int .i64 a0_6) := (blk_cell BK115.out 6).trans rfl; have hcz4_7 : w3.cell? ⟨gb115, 7, none⟩ = some (.int .i64 a0_7) := (blk_cell BK115.out 7).trans rfl; have hcz4_8 : w3.cell? ⟨gb115, 8, none⟩ = some (.int .i64 a0_8) := (blk_cell BK115.out 8).trans rfl; have hcz4_9 : w3.cell? ⟨gb115, 9, none⟩ = some (.int .i64 a0_9) := (blk_cell BK115.out 9).trans rfl; have hcz4_10 : w3.cell? ⟨gb115, 10, none⟩ = some (.int .i64 a0_10) := (blk_cell BK115.out 10).trans rfl; have hcz4_11 : w3.cell? ⟨gb115, 11, none⟩ = some (.int .i64 a0_11) := (blk_cell BK115.out 11).trans rfl; have hcz4_12 : w3.cell? ⟨gb115, 12, none⟩ = some (.int .i64 a0_12) := (blk_cell BK115.out 12).trans rfl; have hfz4_0 := blk_frozen BK115.out 0; have hfz4_1 := blk_frozen BK115.out 1; have hfz4_2 := blk_frozen BK115.out 2; have hfz4_3 := blk_frozen BK115.out 3; have hfz4_4 := blk_frozen BK115.out 4; have hfz4_5 := blk_frozen BK115.out 5; have hfz4_6 := blk_frozen BK115.out 6; have hfz4_7 := blk_frozen BK115.out 7; have hfz4_8 := blk_frozen BK115.out 8; have hfz4_9 := blk_frozen BK115.out 9; have hfz4_10 := blk_frozen BK115.out 10; have hfz4_11 := blk_frozen BK115.out 11; have hfz4_12 := blk_frozen BK115.out 12) | ((with_reducible refine gate_callee (f := 60) rfl ?_); refine goesL_ (some 7) rfl rfl Try.func60 (by kernel_rfl) rfl #[.agg #[.int .i64 a0_0, .int .i64 a0_1, .int .i64 a0_2, .int .i64 a0_3, .int .i64 a0_4, .int .i64 a0_5, .int .i64 a0_6, .int .i64 a0_7, .int .i64 a0_8, .int .i64 a0_9, .int .i64 a0_10, .int .i64 a0_11, .int .i64 a0_12]] rfl (by (try simp only [List.map_toArray, List.map_cons, List.map_nil]); first | done | rfl | (simp only [List.length_drop, List.length_take]; rfl)) ?_; (with_reducible refine (knellref03_Check.calls a0_0 a0_1 a0_2 a0_3 a0_4 a0_5 a0_6 a0_7 a0_8 a0_9 a0_10 a0_11 a0_12 t116 t117 _ A2.out).mono ?_); rintro e w5 ⟨rfl, hb⟩; refine ⟨_, rfl, ?_⟩; have n0_ := Aside0.mk (blk_below (g := gb115) (o := .cells #[.int .i64 a0_0, .int .i64 a0_1, .int .i64 a0_2, .int .i64 a0_3, .int .i64 a0_4, .int .i64 a0_5, .int .i64 a0_6, .int .i64 a0_7, .int .i64 a0_8, .int .i64 a0_9, .int .i64 a0_10, .int .i64 a0_11, .int .i64 a0_12] 33 (0, 0)) (by (with_reducible repeat (first | refine blk_drewN ?_ _ | refine blk_drew ?_ | refine blk_alloc ?_ _)); exact BK115.out) hb); have n1_ := Aside0.mk (below_step (by repeat (first | (with_reducible first | exact HB.out | apply below_alloc | apply pw_below_drewN | apply below_drew1 | refine below_set ?_ GE115.out) | exact HB.out)) hb); clear BK115; clear HB; have BK115 := n0_; have HB := n1_; clear n0_ n1_; (try clear hb); (try clear hb2); (try clear hk); (try clear hi)))
 go_ret
 exact ⟨by first | rfl | (simp [errW_none, errW_some] <;> rfl) | (simp [*, errW_none, errW_some] <;> rfl), by repeat (first | (with_reducible first | exact HB.out | apply below_alloc | apply pw_below_drewN | apply below_drew1 | refine below_set ?_ GE115.out) | exact HB.out)⟩
end Go.Proofs.Ythljanmfanppdaa.KBack
end
section
namespace Go.Proofs.Ythljanmfanppdaa.KBack
open Go.RowKit Go.Proofs.YthljanmfanppdaaW.PrintWords Go.Proofs.YthljanmfanppdaaW.PrintLast Go.Proofs.YthljanmfanppdaaW.PrintMore
attribute [local go_sem] max2_int min2_int max_two min_two max_three min_three max_four min_four   -- for this text's walks alone
set_option linter.unusedVariables false
set_option linter.unusedSimpArgs false
end Go.Proofs.Ythljanmfanppdaa.KBack
end
section
set_option maxHeartbeats 8000000
set_option maxRecDepth 100000
namespace Go.Proofs.Ythljanmfanppdaa.KBack
open Go.RowKit Go.Proofs.YthljanmfanppdaaW.PrintWords Go.Proofs.YthljanmfanppdaaW.PrintLast Go.Proofs.YthljanmfanppdaaW.PrintMore
attribute [local go_sem] max2_int min2_int max_two min_two max_three min_three max_four min_four   -- for this text's walks alone
set_option linter.unusedVariables false
set_option linter.unusedSimpArgs false
def backoff_Jitter.f (k : Nat) (a0 : Int) (a1 : Int) : Option (Int) := (round_Plus.f k (([a1] : List Int))).bind fun t155 => (if (wrap64 (t155 + 1)) = 0 then (none) else (some ((mx a0 0) % (wrap64 (t155 + 1)))))
theorem backoff_Jitter.calls (k : Nat) (a0 : Int) (a1 : Int) (r : Int) (w : World) (h : backoff_Jitter.f k a0 a1 = some r) :
  Calls Try.prog 27 #[.int .i64 a0, .int .i64 a1] w fun e w' => e = .returned (.int .i64 r) ∧ Below w.heap.size w w' := by
 have HB := Aside0.mk (Below.refl w.heap.size w)
 have H : ((round_Plus.f k (([a1] : List Int))).bind fun t155 => (if (wrap64 (t155 + 1)) = 0 then (none) else (some ((mx a0 0) % (wrap64 (t155 + 1)))))) = some r := h
 clear h
 obtain ⟨ji3, hji3⟩ : ∃ j_ : Int, (mx a0 0) = j_ := ⟨_, rfl⟩
 replace H : ((round_Plus.f k (([a1] : List Int))).bind fun t155 => (if (wrap64 (t155 + 1)) = 0 then (none) else (some ((ji3) % (wrap64 (t155 + 1)))))) = some r := by first | (rw [hji3] at H; exact H) | (simp only [hji3] at H ⊢; exact H)
 (try (have hji3l : 0 ≤ ji3 := by (rw [← hji3]; unfold mx; (repeat' split) <;> omega)))
 (try (have hji3m : 0 ≤ ji3 := by omega))
 have hji3_ : (if a0 < 0 then 0 else a0) = ji3 := hji3
 obtain ⟨y152, hy152⟩ : ∃ y_ : List Int, y_ = (([a1] : List Int)) := ⟨_, rfl⟩
 replace H : ((round_Plus.f k y152).bind fun t155 => (if (wrap64 (t155 + 1)) = 0 then (none) else (some ((ji3) % (wrap64 (t155 + 1)))))) = some r := by first | (rw [hy152]; with_reducible exact H) | (have H2_ := (Option.bind_some _ _).symm.trans H; rw [hy152]; with_reducible exact H2_) | (have H2_ := (Option.bind_some _ _).symm.trans H; with_reducible exact H2_) | with_reducible exact H | (rw [hy152]; exact H) | exact H
 have Ny152 := Aside0.mk hy152
 clear hy152
 replace H := Option.bind_eq_some_iff.mp H
 obtain ⟨t155, A40, H⟩ := H
 replace H : (if (wrap64 (t155 + 1)) = 0 then (none) else (some ((ji3) % (wrap64 (t155 + 1))))) = some r := H
 have A4 := Aside0.mk A40
 clear A40
 by_cases c5 : (wrap64 (t155 + 1)) = 0
 ·rw [if_pos c5] at H
  exact absurd H (by simp)
 ·rw [if_neg c5] at H
  have c5b0 : ((wrap64 (t155 + 1)) == 0) = false := beq_eq_false_iff_ne.mpr c5
  have c5b1 : ((wrap64 (t155 + 1)) != 0) = true := bne_iff_ne.mpr c5
  obtain rfl := Option.some.inj H
  go_enter Try.func27, Try.ntmps27
  go_wp2_with (first | ((with_reducible refine gate_dst (N := 8) rfl ?_); refine Kd.R_lit (Kd.int .i64) _ 3 ?hg (N := 8) ?hd (xs := ([a1] : List Int)) (inner := [.int .i64 a1]) (ok := fun _ => True) (okp := fun _ => True) ?hr ?hp (fun _ hk => hk) trivial (Below.refl _ _) (Nat.le_refl _) (by simp) ?_; (case hd => rfl); (case hg => rfl); (case hr => first | (go_simp; done) | (go_simp; rfl)); (case hp => exact (Reps.one (show Kd.M (Kd.int .i64) _ _ _ a1 [.int .i64 a1] from rfl) (Reps.none _ _))); intro v153 w6 ho7 hb hg_ hnew_; clear hg_ hnew_; (first | rw [← Ny152.out] at ho7 | (simp only [Int.reduceToNat] at ho7; rw [← Ny152.out] at ho7)); have n0_ := Aside0.mk (Kd.R_lower ho7 (below_size (by repeat (first | (with_reducible first | exact HB.out | apply below_alloc | apply pw_below_drewN | apply below_drew1) | exact HB.out)))); have n1_ := Aside0.mk (below_step (by repeat (first | (with_reducible first | exact HB.out | apply below_alloc | apply pw_below_drewN | apply below_drew1) | exact HB.out)) hb); clear HB; have HO154 := n0_; have HB := n1_; clear n0_ n1_; clear hb ho7; obtain ⟨Ao8, co8, eo8⟩ := Kd.R_slice HO154.out; subst eo8) | ((with_reducible refine gate_callee (f := 20) rfl ?_); refine goesL_ (some 9) rfl rfl Try.func20 (by kernel_rfl) rfl #[.slice Ao8 y152.length co8] rfl (by (try simp only [List.map_toArray, List.map_cons, List.map_nil]); first | done | rfl | (simp only [List.length_drop, List.length_take]; rfl)) ?_; (with_reducible refine (round_Plus.calls k _ _ y152 t155 _ ?side1 ?side2 A4.out).mono ?_); (case side1 => repeat (first | exact (Kd.R_reads' HO154.out).2.2 | (with_reducible refine Kd.C_alloc ?_ _) | (with_reducible refine Kd.C_drewN ?_ _) | (with_reducible refine Kd.C_drew ?_))); (case side2 => exact (Kd.R_reads' HO154.out).2.1); rintro e w9 ⟨rfl, hb⟩; refine ⟨_, rfl, ?_⟩; have n0_ := Aside0.mk (Kd.R_below (by (with_reducible repeat (first | apply Kd.R_alloc | apply Kd.R_drewN | apply Kd.R_drew)); exact HO154.out) hb); have n1_ := Aside0.mk (below_step (by repeat (first | (with_reducible first | exact HB.out | apply below_alloc | apply pw_below_drewN | apply below_drew1) | exact HB.out)) hb); clear HO154; clear HB; have HO154 := n0_; have HB := n1_; clear n0_ n1_; (try clear hb); (try clear hb2); (try clear hk); (try clear hi)))
  go_ret
  exact ⟨by first | rfl | (simp [errW_none, errW_some] <;> rfl) | (simp only [← hji3]; first | rfl | (simp [errW_none, errW_some] <;> rfl)) | (simp [*, errW_none, errW_some] <;> rfl), by repeat (first | (with_reducible first | exact HB.out | apply below_alloc | apply pw_below_drewN | apply below_drew1) | exact HB.out)⟩
def backoff_Due.f (k : Nat) (a0_0 : Int) (a0_1 : Int) (a0_2 : Int) (a0_3 : Int) (a0_4 : Int) (a0_5 : Int) (a0_6 : Int) (a0_7 : Int) (a0_8 : Int) (a0_9 : Int) (a0_10 : Int) (a0_11 : Int) (a0_12 : Int) (a1 : Int) (a2 : Int) (a3 : Int) : Option (Int) := (backoff_Wait.f k a0_9 a0_10 a2).bind fun t158 => ((backoff_Jitter.f k a3 a0_11).bind fun t159 => ((round_Plus.f k (([a1, t158, t159] : List Int))).bind fun t163 => (some t163)))
def backoff_Due.T1 : Bool × List (List Nat × List Nat) := (true, [([], []), ([], []), ([1], [1]), ([], []), ([3], [3]), ([], []), ([2, 4, 5], [2, 4, 5]), ([], []), ([], []), ([8], [8]), ([7, 9, 6], [7, 9]), ([0, 6, 10], [0, 6, 10]), ([11, 10], [11]), ([12, 12, 0, 1, 2, 3, 4, 5, 6, 7, 8, 9, 10, 11, 12], [12])])
def backoff_Due.B1 : List Nat := [0, 0, 2, 0, 8, 0, 62, 0, 0, 256, 1022, 2047, 4095, 8191]
theorem backoff_Due.tab1 : rtab .any (opsOf Try.f29 1) = backoff_Due.T1 := by kernel_rfl
theorem backoff_Due.bits1 : waitsOk backoff_Due.T1.2 backoff_Due.B1 = true := by kernel_rfl
theorem backoff_Due.calls (k : Nat) (a0_0 : Int) (a0_1 : Int) (a0_2 : Int) (a0_3 : Int) (a0_4 : Int) (a0_5 : Int) (a0_6 : Int) (a0_7 : Int) (a0_8 : Int) (a0_9 : Int) (a0_10 : Int) (a0_11 : Int) (a0_12 : Int) (a1 : Int) (a2 : Int) (a3 : Int) (r : Int) (w : World) (h : backoff_Due.f k a0_0 a0_1 a0_2 a0_3 a0_4 a0_5 a0_6 a0_7 a0_8 a0_9 a0_10 a0_11 a0_12 a1 a2 a3 = some r) :
  Calls Try.prog 29 #[.agg #[.int .i64 a0_0, .int .i64 a0_1, .int .i64 a0_2, .int .i64 a0_3, .int .i64 a0_4, .int .i64 a0_5, .int .i64 a0_6, .int .i64 a0_7, .int .i64 a0_8, .int .i64 a0_9, .int .i64 a0_10, .int .i64 a0_11, .int .i64 a0_12], .int .i64 a1, .int .i64 a2, .int .i64 a3] w fun e w' => e = .returned (.int .i64 r) ∧ Below w.heap.size w w' := by
 have hu36 := Try.underlying36
 have HB := Aside0.mk (Below.refl w.heap.size w)
 have H : ((backoff_Wait.f k a0_9 a0_10 a2).bind fun t158 => ((backoff_Jitter.f k a3 a0_11).bind fun t159 => ((round_Plus.f k (([a1, t158, t159] : List Int))).bind fun t163 => (some t163)))) = some r := h
 clear h
 replace H := Option.bind_eq_some_iff.mp H
 obtain ⟨t158, A50, H⟩ := H
 replace H : ((backoff_Jitter.f k a3 a0_11).bind fun t159 => ((round_Plus.f k (([a1, t158, t159] : List Int))).bind fun t163 => (some t163))) = some r := H
 have A5 := Aside0.mk A50
 clear A50
 replace H := Option.bind_eq_some_iff.mp H
 obtain ⟨t159, A60, H⟩ := H
 replace H : ((round_Plus.f k (([a1, t158, t159] : List Int))).bind fun t163 => (some t163)) = some r := H
 have A6 := Aside0.mk A60
 clear A60
 obtain ⟨y160, hy160⟩ : ∃ y_ : List Int, y_ = (([a1, t158, t159] : List Int)) := ⟨_, rfl⟩
 replace H : ((round_Plus.f k y160).bind fun t163 => (some t163)) = some r := by first | (rw [hy160]; with_reducible exact H) | (have H2_ := (Option.bind_some _ _).symm.trans H; rw [hy160]; with_reducible exact H2_) | (have H2_ := (Option.bind_some _ _).symm.trans H; with_reducible exact H2_) | with_reducible exact H | (rw [hy160]; exact H) | exact H
 have Ny160 := Aside0.mk hy160
 clear hy160
 replace H := Option.bind_eq_some_iff.mp H
 obtain ⟨t163, A70, H⟩ := H
 replace H : (some t163) = some r := H
 have A7 := Aside0.mk A70
 clear A70
 obtain rfl := Option.some.inj H
 go_enter Try.func29, Try.ntmps29
 try go_wp2_with (first | ((with_reducible refine gate_dst (N := 4) rfl ?_); refine box_event ?hg (N := 4) ?hd (cs := #[.int .i64 a0_0, .int .i64 a0_1, .int .i64 a0_2, .int .i64 a0_3, .int .i64 a0_4, .int .i64 a0_5, .int .i64 a0_6, .int .i64 a0_7, .int .i64 a0_8, .int .i64 a0_9, .int .i64 a0_10, .int .i64 a0_11, .int .i64 a0_12]) (t := 36) ?hr ?_; (case hd => rfl); (case hg => rfl); (case hr => first | (go_simp; done) | (go_simp; rfl)); intro gb157 hg w8 hbox hb; have n0_ := Aside0.mk (below_step (by repeat (first | (with_reducible first | exact HB.out | apply below_alloc | apply pw_below_drewN | apply below_drew1) | exact HB.out)) hb); have n1_ := Aside0.mk (hbox); have n2_ := Aside0.mk ((by rw [hg]; exact (below_size (by repeat (first | (with_reducible first | exact HB.out | apply below_alloc | apply pw_below_drewN | apply below_drew1) | exact HB.out))) : w.heap.size ≤ gb157)); have n3_ := Aside0.mk ((by rw [hg]; exact (below_size (by repeat (first | (with_reducible first | exact HB.out | apply below_alloc | apply pw_below_drewN | apply below_drew1) | exact HB.out))) : w.heap.size ≤ gb157)); clear HB; have HB := n0_; have BK157 := n1_; have GW157 := n2_; have GE157 := n3_; clear n0_ n1_ n2_ n3_; clear hb hbox hg))
 have n0_ := Aside0.mk (blk_drew BK157.out)
 have n1_ := Aside0.mk (below_drew1 HB.out)
 clear BK157
 clear HB
 have BK157 := n0_
 have HB := n1_
 clear n0_ n1_
 refine start_ (n := 14) (S := fun w' => w'.cell? ⟨gb157, 0, none⟩ = some (.int .i64 a0_0) ∧ w'.cell? ⟨gb157, 1, none⟩ = some (.int .i64 a0_1) ∧ w'.cell? ⟨gb157, 2, none⟩ = some (.int .i64 a0_2) ∧ w'.cell? ⟨gb157, 3, none⟩ = some (.int .i64 a0_3) ∧ w'.cell? ⟨gb157, 4, none⟩ = some (.int .i64 a0_4) ∧ w'.cell? ⟨gb157, 5, none⟩ = some (.int .i64 a0_5) ∧ w'.cell? ⟨gb157, 6, none⟩ = some (.int .i64 a0_6) ∧ w'.cell? ⟨gb157, 7, none⟩ = some (.int .i64 a0_7) ∧ w'.cell? ⟨gb157, 8, none⟩ = some (.int .i64 a0_8) ∧ w'.cell? ⟨gb157, 9, none⟩ = some (.int .i64 a0_9) ∧ w'.cell? ⟨gb157, 10, none⟩ = some (.int .i64 a0_10) ∧ w'.cell? ⟨gb157, 11, none⟩ = some (.int .i64 a0_11) ∧ w'.cell? ⟨gb157, 12, none⟩ = some (.int .i64 a0_12)) (ds := []) #[ff,ff,ff,ff,ff,ff,ff,ff,ff,ff,ff,ff,ff,ff] (by kernel_rfl) rfl rfl ⟨(blk_cell BK157.out 0).trans rfl, (blk_cell BK157.out 1).trans rfl, (blk_cell BK157.out 2).trans rfl, (blk_cell BK157.out 3).trans rfl, (blk_cell BK157.out 4).trans rfl, (blk_cell BK157.out 5).trans rfl, (blk_cell BK157.out 6).trans rfl, (blk_cell BK157.out 7).trans rfl, (blk_cell BK157.out 8).trans rfl, (blk_cell BK157.out 9).trans rfl, (blk_cell BK157.out 10).trans rfl, (blk_cell BK157.out 11).trans rfl, (blk_cell BK157.out 12).trans rfl⟩ (fun hHeld => ?_); refine with_tabW backoff_Due.tab1 backoff_Due.bits1 (fun HT_ HW_ => ?_)
 generalize w8.drew = w9 at BK157 HB hHeld ⊢
 refine pure_ (i := 0) (N := some 9) (v := ?_) (a' := ?_) #[tt,ff,ff,ff,ff,ff,ff,ff,ff,ff,ff,ff,ff,ff] rfl rfl (any_of HT_.out (by kernel_rfl)) (fun _ _ _ h => h) (Or.inl ⟨by rfl, ?_⟩) ?_ ?_
 rotate_left
 ·intro w'
  go_simp
  with_reducible rfl
 rotate_left
 ·simp only [Act.put, sQ0, sQ1, sQ2, i64_w]
  rfl
 refine pure_ (i := 1) (N := some 10) (v := ?_) (a' := ?_) #[tt,tt,ff,ff,ff,ff,ff,ff,ff,ff,ff,ff,ff,ff] rfl rfl (any_of HT_.out (by kernel_rfl)) (fun _ _ _ h => h) (Or.inl ⟨by rfl, ?_⟩) ?_ ?_
 rotate_left
 ·intro w'
  go_simp
  with_reducible rfl
 rotate_left
 ·simp only [Act.put, sQ0, sQ1, sQ2, i64_w]
  rfl
 refine pure_ (i := 3) (N := some 12) (v := ?_) (a' := ?_) #[tt,tt,ff,tt,ff,ff,ff,ff,ff,ff,ff,ff,ff,ff] rfl rfl (any_of HT_.out (by kernel_rfl)) (fun _ _ _ h => h) (Or.inl ⟨by rfl, ?_⟩) ?_ ?_
 rotate_left
 ·intro w'
  go_simp
  with_reducible rfl
 rotate_left
 ·simp only [Act.put, sQ0, sQ1, sQ2, i64_w]
  rfl
 refine pure_ (i := 5) (N := some 14) (v := ?_) (a' := ?_) #[tt,tt,ff,tt,ff,tt,ff,ff,ff,ff,ff,ff,ff,ff] rfl rfl (any_of HT_.out (by kernel_rfl)) (fun _ _ _ h => h) (Or.inl ⟨by rfl, ?_⟩) ?_ ?_
 rotate_left
 ·intro w'
  go_simp
  with_reducible rfl
 rotate_left
 ·simp only [Act.put, sQ0, sQ1, sQ2, i64_w]
  rfl
 refine pure_ (i := 7) (N := some 16) (v := ?_) (a' := ?_) #[tt,tt,ff,tt,ff,tt,ff,tt,ff,ff,ff,ff,ff,ff] rfl rfl (any_of HT_.out (by kernel_rfl)) (fun _ _ _ h => h) (Or.inl ⟨by rfl, ?_⟩) ?_ ?_
 rotate_left
 ·intro w'
  go_simp
  with_reducible rfl
 rotate_left
 ·simp only [Act.put, sQ0, sQ1, sQ2, i64_w]
  rfl
 refine pure_ (i := 8) (N := some 17) (v := ?_) (a' := ?_) #[tt,tt,ff,tt,ff,tt,ff,tt,tt,ff,ff,ff,ff,ff] rfl rfl (any_of HT_.out (by kernel_rfl)) (fun _ _ _ h => h) (Or.inl ⟨by rfl, ?_⟩) ?_ ?_
 rotate_left
 ·intro w'
  go_simp
  with_reducible rfl
 rotate_left
 ·simp only [Act.put, sQ0, sQ1, sQ2, i64_w]
  rfl
 refine take_ (i := 2) (N := some 11) (v := ?_) (a' := ?_) #[tt,tt,tt,tt,ff,tt,ff,tt,tt,ff,ff,ff,ff,ff] rfl rfl (take_ofW HT_.out HW_.out (by kernel_rfl)) (fun _ _ _ h => h) (Or.inl ⟨by rfl, ?_⟩) hHeld ?_ ?_
 rotate_left
 ·rintro w' ⟨s0, s1, s2, s3, s4, s5, s6, s7, s8, s9, s10, s11, s12⟩
  go_simp
  with_reducible rfl
 rotate_left
 ·simp only [Act.put, sQ0, sQ1, sQ2, i64_w]
  rfl
 refine take_ (i := 4) (N := some 13) (v := ?_) (a' := ?_) #[tt,tt,tt,tt,tt,tt,ff,tt,tt,ff,ff,ff,ff,ff] rfl rfl (take_ofW HT_.out HW_.out (by kernel_rfl)) (fun _ _ _ h => h) (Or.inl ⟨by rfl, ?_⟩) hHeld ?_ ?_
 rotate_left
 ·rintro w' ⟨s0, s1, s2, s3, s4, s5, s6, s7, s8, s9, s10, s11, s12⟩
  go_simp
  with_reducible rfl
 rotate_left
 ·simp only [Act.put, sQ0, sQ1, sQ2, i64_w]
  rfl
 refine take_ (i := 9) (N := some 18) (v := ?_) (a' := ?_) #[tt,tt,tt,tt,tt,tt,ff,tt,tt,tt,ff,ff,ff,ff] rfl rfl (take_ofW HT_.out HW_.out (by kernel_rfl)) (fun _ _ _ h => h) (Or.inl ⟨by rfl, ?_⟩) hHeld ?_ ?_
 rotate_left
 ·rintro w' ⟨s0, s1, s2, s3, s4, s5, s6, s7, s8, s9, s10, s11, s12⟩
  go_simp
  with_reducible rfl
 rotate_left
 ·simp only [Act.put, sQ0, sQ1, sQ2, i64_w]
  rfl
 refine one_ (i := 6) (N := some 15) #[tt,tt,tt,tt,tt,tt,tt,tt,tt,tt,ff,ff,ff,ff] rfl rfl (one_of HT_.out (by kernel_rfl)) (by decide) (fun K hK => ?_)
 refine goes_ Try.func25 (by kernel_rfl) rfl #[.int .i64 a0_9, .int .i64 a0_10, .int .i64 a2] (by rfl) rfl rfl (by (try simp only [List.map_toArray, List.map_cons, List.map_nil]); first | done | rfl | (simp only [List.length_drop, List.length_take]; rfl)) ?_
 with_reducible refine (backoff_Wait.calls k a0_9 a0_10 a2 t158 _ A5.out).mono ?_
 rintro e w10 ⟨rfl, hb⟩
 refine ⟨_, rfl, ?_⟩
 have n0_ := Aside0.mk (blk_below (g := gb157) (o := .cells #[.int .i64 a0_0, .int .i64 a0_1, .int .i64 a0_2, .int .i64 a0_3, .int .i64 a0_4, .int .i64 a0_5, .int .i64 a0_6, .int .i64 a0_7, .int .i64 a0_8, .int .i64 a0_9, .int .i64 a0_10, .int .i64 a0_11, .int .i64 a0_12] 36 (0, 0)) (by (with_reducible repeat (first | refine blk_drewN ?_ _ | refine blk_drew ?_ | refine blk_alloc ?_ _)); exact BK157.out) hb)
 have n1_ := Aside0.mk (below_step (by repeat (first | (with_reducible first | exact HB.out | apply below_alloc | apply pw_below_drewN | apply below_drew1 | refine below_set ?_ GE157.out) | exact HB.out)) hb)
 clear BK157
 clear HB
 have BK157 := n0_
 have HB := n1_
 clear n0_ n1_
 (try clear hb)
 (try clear hb2)
 (try clear hk)
 (try clear hi)
 refine hK.out _ _ ⟨(blk_cell BK157.out 0).trans rfl, (blk_cell BK157.out 1).trans rfl, (blk_cell BK157.out 2).trans rfl, (blk_cell BK157.out 3).trans rfl, (blk_cell BK157.out 4).trans rfl, (blk_cell BK157.out 5).trans rfl, (blk_cell BK157.out 6).trans rfl, (blk_cell BK157.out 7).trans rfl, (blk_cell BK157.out 8).trans rfl, (blk_cell BK157.out 9).trans rfl, (blk_cell BK157.out 10).trans rfl, (blk_cell BK157.out 11).trans rfl, (blk_cell BK157.out 12).trans rfl⟩ (fun hHeld => ?_)
 clear hK K
 refine norm_ (a' := ?_) ?_ ?_
 rotate_left
 ·show Act.put _ (some 15) _ = _
  simp only [Act.put, sQ0, sQ1, sQ2, i64_w]
  rfl
 refine one_ (i := 10) (N := some 19) #[tt,tt,tt,tt,tt,tt,tt,tt,tt,tt,tt,ff,ff,ff] rfl rfl (one_of HT_.out (by kernel_rfl)) (by decide) (fun K hK => ?_)
 refine goes_ Try.func27 (by kernel_rfl) rfl #[.int .i64 a3, .int .i64 a0_11] (by rfl) rfl rfl (by (try simp only [List.map_toArray, List.map_cons, List.map_nil]); first | done | rfl | (simp only [List.length_drop, List.length_take]; rfl)) ?_
 with_reducible refine (backoff_Jitter.calls k a3 a0_11 t159 _ A6.out).mono ?_
 rintro e w11 ⟨rfl, hb⟩
 refine ⟨_, rfl, ?_⟩
 have n0_ := Aside0.mk (blk_below (g := gb157) (o := .cells #[.int .i64 a0_0, .int .i64 a0_1, .int .i64 a0_2, .int .i64 a0_3, .int .i64 a0_4, .int .i64 a0_5, .int .i64 a0_6, .int .i64 a0_7, .int .i64 a0_8, .int .i64 a0_9, .int .i64 a0_10, .int .i64 a0_11, .int .i64 a0_12] 36 (0, 0)) (by (with_reducible repeat (first | refine blk_drewN ?_ _ | refine blk_drew ?_ | refine blk_alloc ?_ _)); exact BK157.out) hb)
 have n1_ := Aside0.mk (below_step (by repeat (first | (with_reducible first | exact HB.out | apply below_alloc | apply pw_below_drewN | apply below_drew1 | refine below_set ?_ GE157.out) | exact HB.out)) hb)
 clear BK157
 clear HB
 have BK157 := n0_
 have HB := n1_
 clear n0_ n1_
 (try clear hb)
 (try clear hb2)
 (try clear hk)
 (try clear hi)
 refine hK.out _ _ ⟨(blk_cell BK157.out 0).trans rfl, (blk_cell BK157.out 1).trans rfl, (blk_cell BK157.out 2).trans rfl, (blk_cell BK157.out 3).trans rfl, (blk_cell BK157.out 4).trans rfl, (blk_cell BK157.out 5).trans rfl, (blk_cell BK157.out 6).trans rfl, (blk_cell BK157.out 7).trans rfl, (blk_cell BK157.out 8).trans rfl, (blk_cell BK157.out 9).trans rfl, (blk_cell BK157.out 10).trans rfl, (blk_cell BK157.out 11).trans rfl, (blk_cell BK157.out 12).trans rfl⟩ (fun hHeld => ?_)
 clear hK K
 refine norm_ (a' := ?_) ?_ ?_
 rotate_left
 ·show Act.put _ (some 19) _ = _
  simp only [Act.put, sQ0, sQ1, sQ2, i64_w]
  rfl
 refine one_ (i := 11) (N := some 20) #[tt,tt,tt,tt,tt,tt,tt,tt,tt,tt,tt,tt,ff,ff] rfl rfl (one_of HT_.out (by kernel_rfl)) (by decide) (fun K hK => ?_)
 refine Kd.R_lit_step (Kd.int .i64) _ 3 ?hg (N := 20) ?hd (xs := ([a1, t158, t159] : List Int)) (inner := [.int .i64 a1, .int .i64 t158, .int .i64 t159]) (ok := fun _ => True) (okp := fun _ => True) ?hr ?hp (fun _ hk => hk) trivial (Below.refl _ _) (Nat.le_refl _) (by simp) ?_; (case hd => rfl); (case hg => rfl); (case hr => first | (go_simp; done) | (go_simp; rfl)); (case hp => exact (Reps.one (show Kd.M (Kd.int .i64) _ _ _ a1 [.int .i64 a1] from rfl) (Reps.one (show Kd.M (Kd.int .i64) _ _ _ t158 [.int .i64 t158] from rfl) (Reps.one (show Kd.M (Kd.int .i64) _ _ _ t159 [.int .i64 t159] from rfl) (Reps.none _ _)))))
 intro v161 w12 ho13 hb hg_ hnew_
 clear hg_ hnew_
 (first | rw [← Ny160.out] at ho13 | (simp only [Int.reduceToNat] at ho13; rw [← Ny160.out] at ho13))
 have n0_ := Aside0.mk (Kd.R_lower ho13 (below_size (by repeat (first | (with_reducible first | exact HB.out | apply below_alloc | apply pw_below_drewN | apply below_drew1 | refine below_set ?_ GE157.out) | exact HB.out))))
 have n1_ := Aside0.mk (blk_below (g := gb157) (o := .cells #[.int .i64 a0_0, .int .i64 a0_1, .int .i64 a0_2, .int .i64 a0_3, .int .i64 a0_4, .int .i64 a0_5, .int .i64 a0_6, .int .i64 a0_7, .int .i64 a0_8, .int .i64 a0_9, .int .i64 a0_10, .int .i64 a0_11, .int .i64 a0_12] 36 (0, 0)) (by (with_reducible repeat (first | refine blk_drewN ?_ _ | refine blk_drew ?_ | refine blk_alloc ?_ _)); exact BK157.out) hb)
 have n2_ := Aside0.mk (below_step (by repeat (first | (with_reducible first | exact HB.out | apply below_alloc | apply pw_below_drewN | apply below_drew1 | refine below_set ?_ GE157.out) | exact HB.out)) hb)
 clear BK157
 clear HB
 have HO162 := n0_
 have BK157 := n1_
 have HB := n2_
 clear n0_ n1_ n2_
 clear hb ho13
 obtain ⟨Ao14, co14, eo14⟩ := Kd.R_slice HO162.out
 (first | subst eo14 | (injection eo14 with f1_ f2_ f3_; have f4_ := f1_.symm; have f5_ := f3_.symm; clear f1_ f2_ f3_; subst f4_; subst f5_))
 refine hK.out _ _ ⟨(blk_cell BK157.out 0).trans rfl, (blk_cell BK157.out 1).trans rfl, (blk_cell BK157.out 2).trans rfl, (blk_cell BK157.out 3).trans rfl, (blk_cell BK157.out 4).trans rfl, (blk_cell BK157.out 5).trans rfl, (blk_cell BK157.out 6).trans rfl, (blk_cell BK157.out 7).trans rfl, (blk_cell BK157.out 8).trans rfl, (blk_cell BK157.out 9).trans rfl, (blk_cell BK157.out 10).trans rfl, (blk_cell BK157.out 11).trans rfl, (blk_cell BK157.out 12).trans rfl⟩ (fun hHeld => ?_)
 clear hK K
 refine norm_ (a' := ?_) ?_ ?_
 rotate_left
 ·show Act.put _ (some 20) _ = _
  simp only [Act.put, sQ0, sQ1, sQ2, i64_w]
  rfl
 refine one_ (i := 12) (N := some 21) #[tt,tt,tt,tt,tt,tt,tt,tt,tt,tt,tt,tt,tt,ff] rfl rfl (one_of HT_.out (by kernel_rfl)) (by decide) (fun K hK => ?_)
 refine goes_ Try.func20 (by kernel_rfl) rfl #[.slice Ao14 y160.length co14] (by rfl) rfl rfl (by (try simp only [List.map_toArray, List.map_cons, List.map_nil]); first | done | rfl | (simp only [List.length_drop, List.length_take]; rfl)) ?_
 with_reducible refine (round_Plus.calls k _ _ y160 t163 _ ?side1 ?side2 A7.out).mono ?_
 (case side1 => repeat (first | exact (Kd.R_reads' HO162.out).2.2 | (with_reducible refine Kd.C_alloc ?_ _) | (with_reducible refine Kd.C_drewN ?_ _) | (with_reducible refine Kd.C_drew ?_)))
 (case side2 => exact (Kd.R_reads' HO162.out).2.1)
 rintro e w15 ⟨rfl, hb⟩
 refine ⟨_, rfl, ?_⟩
 have n0_ := Aside0.mk (Kd.R_below (by (with_reducible repeat (first | apply Kd.R_alloc | apply Kd.R_drewN | apply Kd.R_drew)); exact HO162.out) hb)
 have n1_ := Aside0.mk (blk_below (g := gb157) (o := .cells #[.int .i64 a0_0, .int .i64 a0_1, .int .i64 a0_2, .int .i64 a0_3, .int .i64 a0_4, .int .i64 a0_5, .int .i64 a0_6, .int .i64 a0_7, .int .i64 a0_8, .int .i64 a0_9, .int .i64 a0_10, .int .i64 a0_11, .int .i64 a0_12] 36 (0, 0)) (by (with_reducible repeat (first | refine blk_drewN ?_ _ | refine blk_drew ?_ | refine blk_alloc ?_ _)); exact BK157.out) hb)
 have n2_ := Aside0.mk (below_step (by repeat (first | (with_reducible first | exact HB.out | apply below_alloc | apply pw_below_drewN | apply below_drew1 | refine below_set ?_ GE157.out) | exact HB.out)) hb)
 clear HO162
 clear BK157
 clear HB
 have HO162 := n0_
 have BK157 := n1_
 have HB := n2_
 clear n0_ n1_ n2_
 (try clear hb)
 (try clear hb2)
 (try clear hk)
 (try clear hi)
 refine hK.out _ _ ⟨(blk_cell BK157.out 0).trans rfl, (blk_cell BK157.out 1).trans rfl, (blk_cell BK157.out 2).trans rfl, (blk_cell BK157.out 3).trans rfl, (blk_cell BK157.out 4).trans rfl, (blk_cell BK157.out 5).trans rfl, (blk_cell BK157.out 6).trans rfl, (blk_cell BK157.out 7).trans rfl, (blk_cell BK157.out 8).trans rfl, (blk_cell BK157.out 9).trans rfl, (blk_cell BK157.out 10).trans rfl, (blk_cell BK157.out 11).trans rfl, (blk_cell BK157.out 12).trans rfl⟩ (fun hHeld => ?_)
 clear hK K
 refine norm_ (a' := ?_) ?_ ?_
 rotate_left
 ·show Act.put _ (some 21) _ = _
  simp only [Act.put, sQ0, sQ1, sQ2, i64_w]
  rfl
 refine pure_ (i := 13) (N := some 8) (v := ?_) (a' := ?_) #[tt,tt,tt,tt,tt,tt,tt,tt,tt,tt,tt,tt,tt,tt] rfl rfl (any_of HT_.out (by kernel_rfl)) (fun _ _ _ h => h) (Or.inl ⟨by rfl, ?_⟩) ?_ ?_
 rotate_left
 ·intro w'
  go_simp
  with_reducible rfl
 rotate_left
 ·simp only [Act.put, sQ0, sQ1, sQ2, i64_w]
  rfl
 refine done_ (done_of HT_.out (by kernel_rfl)) ?_
 try go_wp2
 go_ret
 exact ⟨by first | rfl | (simp [errW_none, errW_some] <;> rfl) | (simp [*, errW_none, errW_some] <;> rfl), by repeat (first | (with_reducible first | exact HB.out | apply below_alloc | apply pw_below_drewN | apply below_drew1 | refine below_set ?_ GE157.out) | exact HB.out)⟩
def backoff_Idle.f (k : Nat) (a0_0 : Int) (a0_1 : Int) (a0_2 : Int) (a0_3 : Int) (a0_4 : Int) (a0_5 : Int) (a0_6 : Int) (a0_7 : Int) (a0_8 : Int) (a0_9 : Int) (a0_10 : Int) (a0_11 : Int) (a0_12 : Int) (a1 : Int) : Option (Int) := (round_Plus.f k (([a1, a0_8] : List Int))).bind fun t177 => (some t177)
theorem backoff_Idle.calls (k : Nat) (a0_0 : Int) (a0_1 : Int) (a0_2 : Int) (a0_3 : Int) (a0_4 : Int) (a0_5 : Int) (a0_6 : Int) (a0_7 : Int) (a0_8 : Int) (a0_9 : Int) (a0_10 : Int) (a0_11 : Int) (a0_12 : Int) (a1 : Int) (r : Int) (w : World) (h : backoff_Idle.f k a0_0 a0_1 a0_2 a0_3 a0_4 a0_5 a0_6 a0_7 a0_8 a0_9 a0_10 a0_11 a0_12 a1 = some r) :
  Calls Try.prog 31 #[.agg #[.int .i64 a0_0, .int .i64 a0_1, .int .i64 a0_2, .int .i64 a0_3, .int .i64 a0_4, .int .i64 a0_5, .int .i64 a0_6, .int .i64 a0_7, .int .i64 a0_8, .int .i64 a0_9, .int .i64 a0_10, .int .i64 a0_11, .int .i64 a0_12], .int .i64 a1] w fun e w' => e = .returned (.int .i64 r) ∧ Below w.heap.size w w' := by
 have hu36 := Try.underlying36
 have HB := Aside0.mk (Below.refl w.heap.size w)
 have H : ((round_Plus.f k (([a1, a0_8] : List Int))).bind fun t177 => (some t177)) = some r := h
 clear h
 obtain ⟨y174, hy174⟩ : ∃ y_ : List Int, y_ = (([a1, a0_8] : List Int)) := ⟨_, rfl⟩
 replace H : ((round_Plus.f k y174).bind fun t177 => (some t177)) = some r := by first | (rw [hy174]; with_reducible exact H) | (have H2_ := (Option.bind_some _ _).symm.trans H; rw [hy174]; with_reducible exact H2_) | (have H2_ := (Option.bind_some _ _).symm.trans H; with_reducible exact H2_) | with_reducible exact H | (rw [hy174]; exact H) | exact H
 have Ny174 := Aside0.mk hy174
 clear hy174
 replace H := Option.bind_eq_some_iff.mp H
 obtain ⟨t177, A30, H⟩ := H
 replace H : (some t177) = some r := H
 have A3 := Aside0.mk A30
 clear A30
 obtain rfl := Option.some.inj H
 go_enter Try.func31, Try.ntmps31
 go_wp2_with (first | ((with_reducible refine gate_dst (N := 2) rfl ?_); refine box_event ?hg (N := 2) ?hd (cs := #[.int .i64 a0_0, .int .i64 a0_1, .int .i64 a0_2, .int .i64 a0_3, .int .i64 a0_4, .int .i64 a0_5, .int .i64 a0_6, .int .i64 a0_7, .int .i64 a0_8, .int .i64 a0_9, .int .i64 a0_10, .int .i64 a0_11, .int .i64 a0_12]) (t := 36) ?hr ?_; (case hd => rfl); (case hg => rfl); (case hr => first | (go_simp; done) | (go_simp; rfl)); intro gb173 hg w4 hbox hb; have n0_ := Aside0.mk (below_step (by repeat (first | (with_reducible first | exact HB.out | apply below_alloc | apply pw_below_drewN | apply below_drew1) | exact HB.out)) hb); have n1_ := Aside0.mk (hbox); have n2_ := Aside0.mk ((by rw [hg]; exact (below_size (by repeat (first | (with_reducible first | exact HB.out | apply below_alloc | apply pw_below_drewN | apply below_drew1) | exact HB.out))) : w.heap.size ≤ gb173)); have n3_ := Aside0.mk ((by rw [hg]; exact (below_size (by repeat (first | (with_reducible first | exact HB.out | apply below_alloc | apply pw_below_drewN | apply below_drew1) | exact HB.out))) : w.heap.size ≤ gb173)); clear HB; have HB := n0_; have BK173 := n1_; have GW173 := n2_; have GE173 := n3_; clear n0_ n1_ n2_ n3_; clear hb hbox hg; have hcz5_0 : w4.cell? ⟨gb173, 0, none⟩ = some (.int .i64 a0_0) := (blk_cell BK173.out 0).trans rfl; have hcz5_1 : w4.cell? ⟨gb173, 1, none⟩ = some (.int .i64 a0_1) := (blk_cell BK173.out 1).trans rfl; have hcz5_2 : w4.cell? ⟨gb173, 2, none⟩ = some (.int .i64 a0_2) := (blk_cell BK173.out 2).trans rfl; have hcz5_3 : w4.cell? ⟨gb173, 3, none⟩ = some (.int .i64 a0_3) := (blk_cell BK173.out 3).trans rfl; have hcz5_4 : w4.cell? ⟨gb173, 4, none⟩ = some (.int .i64 a0_4) := (blk_cell BK173.out 4).trans rfl; have hcz5_5 : w4.cell? ⟨gb173, 5, none⟩ = some (.int .i64 a0_5) := (blk_cell BK173.out 5).trans rfl; have hcz5_6 : w4.cell? ⟨gb173, 6, none⟩ = some (.int .i64 a0_6) := (blk_cell BK173.out 6).trans rfl; have hcz5_7 : w4.cell? ⟨gb173, 7, none⟩ = some (.int .i64 a0_7) := (blk_cell BK173.out 7).trans rfl; have hcz5_8 : w4.cell? ⟨gb173, 8, none⟩ = some (.int .i64 a0_8) := (blk_cell BK173.out 8).trans rfl; have hcz5_9 : w4.cell? ⟨gb173, 9, none⟩ = some (.int .i64 a0_9) := (blk_cell BK173.out 9).trans rfl; have hcz5_10 : w4.cell? ⟨gb173, 10, none⟩ = some (.int .i64 a0_10) := (blk_cell BK173.out 10).trans rfl; have hcz5_11 : w4.cell? ⟨gb173, 11, none⟩ = some (.int .i64 a0_11) := (blk_cell BK173.out 11).trans rfl; have hcz5_12 : w4.cell? ⟨gb173, 12, none⟩ = some (.int .i64 a0_12) := (blk_cell BK173.out 12).trans rfl; have hfz5_0 := blk_frozen BK173.out 0; have hfz5_1 := blk_frozen BK173.out 1; have hfz5_2 := blk_frozen BK173.out 2; have hfz5_3 := blk_frozen BK173.out 3; have hfz5_4 := blk_frozen BK173.out 4; have hfz5_5 := blk_frozen BK173.out 5; have hfz5_6 := blk_frozen BK173.out 6; have hfz5_7 := blk_frozen BK173.out 7; have hfz5_8 := blk_frozen BK173.out 8; have hfz5_9 := blk_frozen BK173.out 9; have hfz5_10 := blk_frozen BK173.out 10; have hfz5_11 := blk_frozen BK173.out 11; have hfz5_12 := blk_frozen BK173.out 12) | ((with_reducible refine gate_dst (N := 8) rfl ?_); refine Kd.R_lit (Kd.int .i64) _ 3 ?hg (N := 8) ?hd (xs := ([a1, a0_8] : List Int)) (inner := [.int .i64 a1, .int .i64 a0_8]) (ok := fun _ => True) (okp := fun _ => True) ?hr ?hp (fun _ hk => hk) trivial (Below.refl _ _) (Nat.le_refl _) (by simp) ?_; (case hd => rfl); (case hg => rfl); (case hr => first | (go_simp; done) | (go_simp; rfl)); (case hp => exact (Reps.one (show Kd.M (Kd.int .i64) _ _ _ a1 [.int .i64 a1] from rfl) (Reps.one (show Kd.M (Kd.int .i64) _ _ _ a0_8 [.int .i64 a0_8] from rfl) (Reps.none _ _)))); intro v175 w6 ho7 hb hg_ hnew_; clear hg_ hnew_; (first | rw [← Ny174.out] at ho7 | (simp only [Int.reduceToNat] at ho7; rw [← Ny174.out] at ho7)); have n0_ := Aside0.mk (Kd.R_lower ho7 (below_size (by repeat (first | (with_reducible first | exact HB.out | apply below_alloc | apply pw_below_drewN | apply below_drew1 | refine below_set ?_ GE173.out) | exact HB.out)))); have n1_ := Aside0.mk (blk_below (g := gb173) (o := .cells #[.int .i64 a0_0, .int .i64 a0_1, .int .i64 a0_2, .int .i64 a0_3, .int .i64 a0_4, .int .i64 a0_5, .int .i64 a0_6, .int .i64 a0_7, .int .i64 a0_8, .int .i64 a0_9, .int .i64 a0_10, .int .i64 a0_11, .int .i64 a0_12] 36 (0, 0)) (by (with_reducible repeat (first | refine blk_drewN ?_ _ | refine blk_drew ?_ | refine blk_alloc ?_ _)); exact BK173.out) hb); have n2_ := Aside0.mk (below_step (by repeat (first | (with_reducible first | exact HB.out | apply below_alloc | apply pw_below_drewN | apply below_drew1 | refine below_set ?_ GE173.out) | exact HB.out)) hb); clear BK173; clear HB; have HO176 := n0_; have BK173 := n1_; have HB := n2_; clear n0_ n1_ n2_; clear hb ho7; obtain ⟨Ao8, co8, eo8⟩ := Kd.R_slice HO176.out; subst eo8) | ((with_reducible refine gate_callee (f := 20) rfl ?_); refine goesL_ (some 9) rfl rfl Try.func20 (by kernel_rfl) rfl #[.slice Ao8 y174.length co8] rfl (by (try simp only [List.map_toArray, List.map_cons, List.map_nil]); first | done | rfl | (simp only [List.length_drop, List.length_take]; rfl)) ?_; (with_reducible refine (round_Plus.calls k _ _ y174 t177 _ ?side1 ?side2 A3.out).mono ?_); (case side1 => repeat (first | exact (Kd.R_reads' HO176.out).2.2 | (with_reducible refine Kd.C_alloc ?_ _) | (with_reducible refine Kd.C_drewN ?_ _) | (with_reducible refine Kd.C_drew ?_))); (case side2 => exact (Kd.R_reads' HO176.out).2.1); rintro e w9 ⟨rfl, hb⟩; refine ⟨_, rfl, ?_⟩; have n0_ := Aside0.mk (Kd.R_below (by (with_reducible repeat (first | apply Kd.R_alloc | apply Kd.R_drewN | apply Kd.R_drew)); exact HO176.out) hb); have n1_ := Aside0.mk (blk_below (g := gb173) (o := .cells #[.int .i64 a0_0, .int .i64 a0_1, .int .i64 a0_2, .int .i64 a0_3, .int .i64 a0_4, .int .i64 a0_5, .int .i64 a0_6, .int .i64 a0_7, .int .i64 a0_8, .int .i64 a0_9, .int .i64 a0_10, .int .i64 a0_11, .int .i64 a0_12] 36 (0, 0)) (by (with_reducible repeat (first | refine blk_drewN ?_ _ | refine blk_drew ?_ | refine blk_alloc ?_ _)); exact BK173.out) hb); have n2_ := Aside0.mk (below_step (by repeat (first | (with_reducible first | exact HB.out | apply below_alloc | apply pw_below_drewN | apply below_drew1 | refine below_set ?_ GE173.out) | exact HB.out)) hb); clear HO176; clear BK173; clear HB; have HO176 := n0_; have BK173 := n1_; have HB := n2_; clear n0_ n1_ n2_; (try clear hb); (try clear hb2); (try clear hk); (try clear hi)))
 go_ret
 exact ⟨by first | rfl | (simp [errW_none, errW_some] <;> rfl) | (simp [*, errW_none, errW_some] <;> rfl), by repeat (first | (with_reducible first | exact HB.out | apply below_alloc | apply pw_below_drewN | apply below_drew1 | refine below_set ?_ GE173.out) | exact HB.out)⟩
end Go.Proofs.Ythljanmfanppdaa.KBack
end
section
namespace Go.Proofs.Ythljanmfanppdaa.PureLk
open Go.RowKit Go.Proofs.Ythljanmfanppdaa.KBack Go.Proofs.YthljanmfanppdaaW.PrintWords Go.Proofs.YthljanmfanppdaaW.PrintLast Go.Proofs.YthljanmfanppdaaW.PrintMore
open Go.Proofs.Ythljanmfanppdaa.Kw (cfBad cfLeast cfMost)
def cl (t : Int) : Int := if t < 0 then 0 else if 1073741823 < t then 1073741823 else t
theorem cl_bd (t : Int) : 0 ≤ cl t ∧ cl t ≤ 1073741823 := by
 unfold cl
 repeat' split
 all_goals omega
theorem cl_id {t : Int} (h0 : 0 ≤ t) (h1 : t ≤ 1073741823) : cl t = t := by unfold cl; rw [if_neg (by omega), if_neg (by omega)]
theorem w64 {x : Int} (h0 : -9223372036854775808 ≤ x) (h1 : x < 9223372036854775808) : wrap64 x = x := by
 unfold wrap64; omega
theorem clock_is (t : Int) : round_clock.f t = some (cl t) := by
 unfold round_clock.f mn mx cl
 congr 1
 repeat' split
 all_goals omega
def add (s t : Int) : Int := cl (s + cl t)
def sum (l : List Int) (s : Int) : Int := l.foldl add s
theorem drop_step (l : List Int) (i : Nat) (h : i < l.length) : l.drop i = l[i] :: l.drop (i + 1) := List.drop_eq_getElem_cons h
theorem rd_nat (l : List Int) (i : Nat) (h : i < l.length) : rd l (i : Int) = l[i] := by
 unfold rd
 simp [List.getD_eq_getElem?_getD, h]
theorem plus_loop (l : List Int) (hl : l.length ≤ 17592186044416) : ∀ (d k i : Nat) (s : Int), i + d = l.length → d < k → 0 ≤ s → s ≤ 1073741823 →
  round_Plus.l0 k s l (l.length : Int) (i : Int) = some (sum (l.drop i) s) := by
 intro d
 induction d with
 | zero =>
  intro k i s hi hk _ _
  obtain ⟨k, rfl⟩ : ∃ m, k = m + 1 := ⟨k - 1, by omega⟩
  simp only [round_Plus.l0]
  rw [if_neg (by omega), List.drop_eq_nil_of_le (by omega)]; rfl
 | succ d ih =>
  intro k i s hi hk h0 h1
  obtain ⟨k, rfl⟩ : ∃ m, k = m + 1 := ⟨k - 1, by omega⟩
  have hb := cl_bd (rd l (i : Int))
  simp only [round_Plus.l0]
  rw [if_pos (by omega), if_pos (by omega), if_pos (by omega)]
  simp only [clock_is, Option.bind_some]
  rw [w64 (x := s + cl (rd l (i : Int))) (by omega) (by omega), w64 (x := (i : Int) + 1) (by omega) (by omega)]
  have e : ((i : Int) + 1) = ((i + 1 : Nat) : Int) := by omega
  rw [e, ih k (i + 1) (cl (s + cl (rd l (i : Int)))) (by omega) (by omega) (cl_bd _).1 (cl_bd _).2, drop_step l i (by omega), rd_nat l i (by omega)]
  rfl
theorem plus_is (l : List Int) (hl : l.length ≤ 17592186044416) (k : Nat) (hk : l.length < k) : round_Plus.f k l = some (sum l 0) := by
 unfold round_Plus.f
 exact plus_loop l hl l.length k 0 0 (by omega) hk (by omega) (by omega)
theorem sum_one (a : Int) : sum [a] 0 = cl a := by
 show cl (0 + cl a) = cl a
 have := cl_bd a
 rw [show 0 + cl a = cl a by omega, cl_id this.1 this.2]
def dbl : Nat → Int → Int
 | 0, b => b
 | n + 1, b => dbl n (mn (b * 2) 1073741823)
theorem mn_bd {b : Int} (h : 0 ≤ b) : 0 ≤ mn (b * 2) 1073741823 ∧ mn (b * 2) 1073741823 ≤ 1073741823 := by unfold mn; split <;> omega
def wt (b m a : Int) : Int := mn (dbl (mn (mx a 0) 31).toNat (cl b)) (cl m)
theorem wait_loop (m : Int) : ∀ (d k i : Nat) (n : Int) (b : Int), (i : Int) + d = n → n ≤ 31 → d < k → 0 ≤ b → b ≤ 1073741823 → backoff_Wait.l0 k b m n (i : Int) = some (mn (dbl d b) m) := by
 intro d
 induction d with
 | zero =>
  intro k i n b hi hn hk _ _
  obtain ⟨k, rfl⟩ : ∃ j, k = j + 1 := ⟨k - 1, by omega⟩
  simp only [backoff_Wait.l0]
  rw [if_neg (by omega)]; rfl
 | succ d ih =>
  intro k i n b hi hn hk h0 h1
  obtain ⟨k, rfl⟩ : ∃ j, k = j + 1 := ⟨k - 1, by omega⟩
  simp only [backoff_Wait.l0]
  rw [if_pos (by omega), w64 (x := b * 2) (by omega) (by omega), w64 (x := (i : Int) + 1) (by omega) (by omega)]
  have e : ((i : Int) + 1) = ((i + 1 : Nat) : Int) := by omega
  rw [e, ih k (i + 1) n _ (by omega) hn (by omega) (mn_bd h0).1 (mn_bd h0).2]
  rfl
theorem att_bd (a : Int) : 0 ≤ mn (mx a 0) 31 ∧ mn (mx a 0) 31 ≤ 31 := by
 unfold mn mx
 repeat' split
 all_goals omega
theorem wait_is (b m a : Int) (k : Nat) (hk : 40 ≤ k) : backoff_Wait.f k b m a = some (wt b m a) := by
 unfold backoff_Wait.f
 rw [plus_is [b] (by simp) k (by simp; omega), Option.bind_some, plus_is [m] (by simp) k (by simp; omega), Option.bind_some, sum_one, sum_one]
 have h := att_bd a
 have hb := cl_bd b
 exact wait_loop (cl m) (mn (mx a 0) 31).toNat k 0 _ (cl b) (by omega) h.2 (by omega) hb.1 hb.2
def jit (d m : Int) : Int := mx d 0 % (cl m + 1)
theorem jitter_is (d m : Int) (k : Nat) (hk : 40 ≤ k) : backoff_Jitter.f k d m = some (jit d m) := by
 have := cl_bd m
 unfold backoff_Jitter.f
 rw [plus_is [m] (by simp) k (by simp; omega), Option.bind_some, sum_one, w64 (x := cl m + 1) (by omega) (by omega), if_neg (by omega)]
 rfl
section
variable (c0 c1 c2 c3 c4 c5 c6 c7 c8 c9 c10 c11 c12 : Int)
def due (now a d : Int) : Int := sum [now, wt c9 c10 a, jit d c11] 0
def idle (last : Int) : Int := sum [last, c8] 0
theorem due_is (now a d : Int) (k : Nat) (hk : 40 ≤ k) : backoff_Due.f k c0 c1 c2 c3 c4 c5 c6 c7 c8 c9 c10 c11 c12 now a d = some (due c9 c10 c11 now a d) := by
 unfold backoff_Due.f
 rw [wait_is _ _ _ k hk, Option.bind_some, jitter_is _ _ k hk, Option.bind_some, plus_is _ (by simp) k (by simp; omega)]
 rfl
theorem idle_is (last : Int) (k : Nat) (hk : 40 ≤ k) : backoff_Idle.f k c0 c1 c2 c3 c4 c5 c6 c7 c8 c9 c10 c11 c12 last = some (idle c8 last) := by
 unfold backoff_Idle.f
 rw [plus_is _ (by simp) k (by simp; omega)]
 rfl
end
theorem cfBad_ok (l : List Int) : ∀ (d : Nat) (i : Int), (cfBad l d i).2 = 0 → ∀ j : Nat, j < d → cfLeast (i + j) ≤ l.getD (i + j).toNat 0 ∧ l.getD (i + j).toNat 0 ≤ cfMost (i + j) := by
 intro d
 induction d with
 | zero => intro i _ j hj; omega
 | succ d ih =>
  intro i h j hj
  unfold cfBad at h
  by_cases hc : l.getD i.toNat 0 < cfLeast i ∨ cfMost i < l.getD i.toNat 0
  ·rw [if_pos hc] at h
   simp at h
  ·rw [if_neg hc] at h
   cases j with
   | zero => simp only [Int.natCast_zero, Int.add_zero]; omega
   | succ j =>
    have := ih (i + 1) h j (by omega)
    rw [show i + ((j + 1 : Nat) : Int) = i + 1 + (j : Int) by omega]
    exact this
section
variable (c0 c1 c2 c3 c4 c5 c6 c7 c8 c9 c10 c11 c12 : Int)
def rightB : Bool := (cfBad [c0, c1, c2, c3, c4, c5, c6, c7, c8, c9, c10, c11, c12] 13 0).2 == 0
theorem right_is : knellref03_Right.f c0 c1 c2 c3 c4 c5 c6 c7 c8 c9 c10 c11 c12 = some (rightB c0 c1 c2 c3 c4 c5 c6 c7 c8 c9 c10 c11 c12) := by
 unfold knellref03_Right.f knellref03_Check.f rightB
 rfl
end
end Go.Proofs.Ythljanmfanppdaa.PureLk
end
section
namespace Go.Proofs.Ythljanmfanppdaa.Bk
open Go.RowKit Go.Maps Go.Proofs.YthljanmfanppdaaW.PrintWords Go.Proofs.YthljanmfanppdaaW.PrintLast Go.Proofs.YthljanmfanppdaaW.PrintMore Go.Proofs.Ythljanmfanppdaa.Mp Go.Proofs.Ythljanmfanppdaa.KLk
open Go.Proofs.Ythljanmfanppdaa.Kw (cfBad cfLeast cfMost)
set_option linter.unusedVariables false
set_option linter.unusedSimpArgs false
def ownB (op : Int) : Bool := decide (1 ≤ op) && decide (op ≤ 5)
def lkOk (k op : Int) : Bool := (k == 1 && op == 0) || ((k == 2 || k == 5) && (ownB op || op == 6)) || (k == 3 && ownB op) || (k == 4 && (op == 7 || op == 8))
def lkW (k : Int) : Bool := k == 2 || k == 3 || k == 4 || k == 5
def lkC (k op : Int) : Bool := (k == 2 && ownB op) || k == 3 || k == 4
def lkT (k er : Int) : Bool := k == 1 || (k == 3 && !(er == 1 || er == 3 || er == 6)) || k == 4
def lkD (k op : Int) : Bool := k == 2 && op == 4
def lkE (k op : Int) : Bool := k == 3 || (k == 5 && ownB op)
def lrB (k wk op cn t dr er : Int) : Bool :=
 lkOk k op && (!decide (wk < 0) && (!decide (t < 0) && (!decide (er < 0) && (!(k == 4 && decide (cn < 0)) && ((lkW k || wk == 0) && ((lkC k op || cn == 0) && ((lkT k er || t == 0) && ((lkD k op || dr == 0) && (lkE k op || er == 0)))))))))
theorem shape_is (n : Nat) (k wk op cn t dr er : Int) : link_shapeOf.f (n + 1) k wk op cn t dr er = some (lkW k, lkC k op, lkT k er, lkD k op, lkE k op, lkOk k op) := by
 have h : link_shapeOf.f (n + 1) k wk op cn t dr er = link_shapeOf.j0 (n + 1) (ownB op) k wk op cn t dr er := by
  unfold link_shapeOf.f ownB
  by_cases h : op ≥ 1
  ·rw [if_pos h, decide_eq_true (show 1 ≤ op from h)]; rfl
  ·rw [if_neg h, decide_eq_false (show ¬ 1 ≤ op from h)]; rfl
 rw [h]
 simp only [link_shapeOf.j0]
 generalize ho : ownB op = o
 by_cases k1 : k = 1
 ·subst k1; simp [lkW, lkC, lkT, lkD, lkE, lkOk]
 by_cases k2 : k = 2
 ·subst k2; cases o <;> simp [lkW, lkC, lkT, lkD, lkE, lkOk, ho]
 by_cases k3 : k = 3
 ·subst k3
  by_cases e1 : er = 1
  ·simp [lkW, lkC, lkT, lkD, lkE, lkOk, ho, e1]
  by_cases e3 : er = 3
  ·simp [lkW, lkC, lkT, lkD, lkE, lkOk, ho, e3]
  ·simp [lkW, lkC, lkT, lkD, lkE, lkOk, ho, e1, e3]
 by_cases k4 : k = 4
 ·subst k4
  by_cases o7 : op = 7
  ·simp [lkW, lkC, lkT, lkD, lkE, lkOk, o7]
  ·simp [lkW, lkC, lkT, lkD, lkE, lkOk, o7]
 by_cases k5 : k = 5
 ·subst k5; cases o <;> simp [lkW, lkC, lkT, lkD, lkE, lkOk, ho]
 simp [lkW, lkC, lkT, lkD, lkE, lkOk, k1, k2, k3, k4, k5]
theorem nought_is (b : Bool) (n : Int) : link_nought.f b n = some (b || n == 0) := by
 unfold link_nought.f
 cases b <;> simp
theorem right_is (n : Nat) (k wk op cn t dr er : Int) : link_Right.f (n + 1) k wk op cn t dr er = some (lrB k wk op cn t dr er) := by
 unfold link_Right.f lrB
 rw [shape_is]
 simp only [Option.bind_some]
 generalize lkOk k op = b0
 generalize lkW k = b1
 generalize lkC k op = b2
 generalize lkT k er = b3
 generalize lkD k op = b4
 generalize lkE k op = b5
 have j : ∀ x : Bool, link_Right.j0 (n + 1) x k wk op cn t dr er b1 b2 b3 b4 b5 = some (!x && ((b1 || wk == 0) && ((b2 || cn == 0) && ((b3 || t == 0) && ((b4 || dr == 0) && (b5 || er == 0)))))) := fun x => by
  simp only [link_Right.j0, nought_is, Option.bind_some]
  cases x
  ·generalize (b1 || wk == 0) = q1
   generalize (b2 || cn == 0) = q2
   generalize (b3 || t == 0) = q3
   generalize (b4 || dr == 0) = q4
   generalize (b5 || er == 0) = q5
   cases q1 <;> cases q2 <;> cases q3 <;> cases q4 <;> simp
  ·simp
 simp only [j]
 cases b0
 ·simp
 ·by_cases h1 : wk < 0
  ·simp [h1]
  by_cases h2 : t < 0
  ·simp [h1, h2]
  by_cases h3 : er < 0
  ·simp [h1, h2, h3]
  by_cases h4 : k = 4
  ·simp [h1, h2, h3, h4]
  ·simp [h1, h2, h3, h4]
theorem right_calls (k wk op cn t dr er : Int) (W : World) : Calls Try.prog 63 #[.agg (evA k wk op cn t dr er)] W fun e w' => e = .returned (.bool (lrB k wk op cn t dr er)) ∧ Below W.heap.size W w' :=
 link_Right.calls 1 k wk op cn t dr er _ W (right_is 0 k wk op cn t dr er)
def dueI (c : Cf) (now att draw : Int) : Int := PureLk.due c.c9 c.c10 c.c11 now att draw
def idleI (c : Cf) (last : Int) : Int := PureLk.idle c.c8 last
theorem due_calls (c : Cf) (now att draw : Int) (W : World) : Calls Try.prog 29 #[.agg c.cells, .int .i64 now, .int .i64 att, .int .i64 draw] W fun e w' => e = .returned (.int .i64 (dueI c now att draw)) ∧ Below W.heap.size W w' :=
 KBack.backoff_Due.calls 40 _ _ _ _ _ _ _ _ _ _ _ _ _ now att draw _ W (PureLk.due_is _ _ _ _ _ _ _ _ _ _ _ _ _ now att draw 40 (Nat.le_refl _))
theorem idle_calls (c : Cf) (last : Int) (W : World) : Calls Try.prog 31 #[.agg c.cells, .int .i64 last] W fun e w' => e = .returned (.int .i64 (idleI c last)) ∧ Below W.heap.size W w' :=
 KBack.backoff_Idle.calls 40 _ _ _ _ _ _ _ _ _ _ _ _ _ last _ W (PureLk.idle_is _ _ _ _ _ _ _ _ _ _ _ _ _ last 40 (Nat.le_refl _))
def afterF (c : Cf) (F : SM) (op cn t draw : Int) : St × Int × Bool :=
 if op = 1 ∧ (F.at_ cn).1 = 0 ∧ cn ≥ 0 ∧ cn < c.c7 then ((1, 0, t), 0, true)
 else if op = 2 ∧ (F.at_ cn).1 = 1 then ((1, (F.at_ cn).2.1, if t ≤ (F.at_ cn).2.2 then (F.at_ cn).2.2 else t), 0, true)
 else if op = 3 ∧ ¬ (F.at_ cn).1 = 0 then ((0, 0, 0), 0, true)
 else if op = 5 ∧ (F.at_ cn).1 = 3 then ((1, 0, t), 0, true)
 else if op = 4 ∧ ((F.at_ cn).1 = 1 ∨ (F.at_ cn).1 = 3) then
  if (F.at_ cn).2.1 ≥ c.c12 then ((0, 0, 0), 5, true) else ((2, wrap64 ((F.at_ cn).2.1 + 1), dueI c t (F.at_ cn).2.1 draw), 0, true)
 else (F.at_ cn, 0, false)
theorem after_any {g m s : Nat} {c : Cf} {clock : Int} {F : SM} (k wk op cn t dr er draw : Int) (hx : (Lit.int .i64 cn).wf = true) (w : World) (hB : BookIs w g m s c clock F) :
  Calls Try.prog 65 #[.pointer (some ⟨g, 0, none⟩), .agg (evA k wk op cn t dr er), .int .i64 draw] w (AfterPost (afterF c F op cn t draw).1 (afterF c F op cn t draw).2.1 (afterF c F op cn t draw).2.2 w) := by
 unfold afterF
 by_cases o1 : op = 1
 ·subst o1
  by_cases ha : (F.at_ cn).1 = 0
  ·by_cases hin : cn ≥ 0 ∧ cn < c.c7
   ·rw [if_pos ⟨rfl, ha, hin⟩]
    exact after_open k wk 1 cn t dr er draw hx rfl ha hin w hB
   ·rw [if_neg (fun q => hin q.2.2), if_neg (by omega), if_neg (by omega), if_neg (by omega), if_neg (by omega)]
    exact after_none1b k wk 1 cn t dr er draw hx rfl ha hin w hB
  ·rw [if_neg (fun q => ha q.2.1), if_neg (by omega), if_neg (by omega), if_neg (by omega), if_neg (by omega)]
   exact after_none1 k wk 1 cn t dr er draw hx rfl ha w hB
 rw [if_neg (fun q => o1 q.1)]
 by_cases o2 : op = 2
 ·subst o2
  by_cases ha : (F.at_ cn).1 = 1
  ·rw [if_pos ⟨rfl, ha⟩]
   by_cases hd : t ≤ (F.at_ cn).2.2
   ·rw [if_pos hd]
    exact after_touch_b k wk 2 cn t dr er draw hx rfl ha hd w hB
   ·rw [if_neg hd]
    exact after_touch_a k wk 2 cn t dr er draw hx rfl ha hd w hB
  ·rw [if_neg (fun q => ha q.2), if_neg (by omega), if_neg (by omega), if_neg (by omega)]
   exact after_none2 k wk 2 cn t dr er draw hx rfl ha w hB
 rw [if_neg (fun q => o2 q.1)]
 by_cases o3 : op = 3
 ·subst o3
  by_cases ha : (F.at_ cn).1 = 0
  ·rw [if_neg (fun q => q.2 ha), if_neg (by omega), if_neg (by omega)]
   exact after_none3 k wk 3 cn t dr er draw hx rfl ha w hB
  ·rw [if_pos ⟨rfl, ha⟩]
   exact after_close k wk 3 cn t dr er draw hx rfl ha w hB
 rw [if_neg (fun q => o3 q.1)]
 by_cases o5 : op = 5
 ·subst o5
  by_cases ha : (F.at_ cn).1 = 3
  ·rw [if_pos ⟨rfl, ha⟩]
   exact after_success k wk 5 cn t dr er draw hx rfl ha w hB
  ·rw [if_neg (fun q => ha q.2), if_neg (by omega)]
   exact after_none5 k wk 5 cn t dr er draw hx rfl ha w hB
 rw [if_neg (fun q => o5 q.1)]
 by_cases o4 : op = 4
 ·subst o4
  by_cases ha : (F.at_ cn).1 = 1 ∨ (F.at_ cn).1 = 3
  ·rw [if_pos ⟨rfl, ha⟩]
   by_cases hb : (F.at_ cn).2.1 ≥ c.c12
   ·rw [if_pos hb]
    rcases ha with ha | ha
    ·exact after_fail1 k wk 4 cn t dr er draw hx rfl ha hb w hB
    ·exact after_fail3 k wk 4 cn t dr er draw hx rfl ha hb w hB
   ·rw [if_neg hb, ← IntWalk.i64_left]
    rcases ha with ha | ha
    ·exact after_wait1 k wk 4 cn t dr er draw hx _ rfl ha hb (fun W => due_calls c t _ draw W) w hB
    ·exact after_wait3 k wk 4 cn t dr er draw hx _ rfl ha hb (fun W => due_calls c t _ draw W) w hB
  ·rw [if_neg (fun q => ha q.2)]
   exact after_none4 k wk 4 cn t dr er draw hx rfl ⟨fun q => ha (.inl q), fun q => ha (.inr q)⟩ w hB
 rw [if_neg (fun q => o4 q.1)]
 exact after_none k wk op cn t dr er draw hx ⟨o1, o2, o3, o4, o5⟩ w hB
theorem act_any {g m s : Nat} {c : Cf} {clock : Int} {F : SM} (k wk op cn t dr er : Int) (hx : (Lit.int .i64 cn).wf = true) (hs : s < 1000000) (w : World) (hB : BookIs w g m s c clock F) :
  Calls Try.prog 64 #[.pointer (some ⟨g, 0, none⟩), .agg (evA k wk op cn t dr er)] w (SetPost g m s c clock (actF F clock (idleI c (F.at_ cn).2.2) op cn t).2 w (actF F clock (idleI c (F.at_ cn).2.2) op cn t).1) := by
 unfold actF
 by_cases ht : t > clock
 ·rw [if_pos ht]
  exact act_late k wk op cn t dr er hx ht w hB
 rw [if_neg ht]
 by_cases o7 : op = 7
 ·subst o7
  by_cases ha : (F.at_ cn).1 = 1
  ·by_cases hi : idleI c (F.at_ cn).2.2 ≤ t
   ·rw [if_pos ⟨rfl, ha, hi⟩]
    exact act_idle k wk 7 cn t dr er hx hs _ ht rfl ha hi (fun W => idle_calls c _ W) w hB
   ·rw [if_neg (fun q => hi q.2.2), if_neg (by omega)]
    exact act_busy k wk 7 cn t dr er hx hs _ ht rfl ha hi (fun W => idle_calls c _ W) w hB
  ·rw [if_neg (fun q => ha q.2.1), if_neg (by omega)]
   exact act_seven k wk 7 cn t dr er hx ht rfl ha w hB
 rw [if_neg (fun q => o7 q.1)]
 by_cases h8 : op = 8 ∧ (F.at_ cn).1 = 2 ∧ (F.at_ cn).2.2 ≤ t
 ·rw [if_pos h8]
  exact act_eight k wk op cn t dr er hx hs ht h8.1 h8.2.1 h8.2.2 w hB
 ·rw [if_neg h8]
  exact act_none k wk op cn t dr er hx ht o7 h8 w hB
def doF (c : Cf) (clock : Int) (F : SM) (k wk op cn t dr er draw : Int) : Int × Int × SM :=
 if lrB k wk op cn t dr er = false then (8, clock, F)
 else if k = 1 then (if t = wrap64 (clock + 1) then (0, t, F) else (6, clock, F))
 else if k = 4 then ((actF F clock (idleI c (F.at_ cn).2.2) op cn t).1, clock, (actF F clock (idleI c (F.at_ cn).2.2) op cn t).2)
 else if k = 3 then
  if er = 1 ∨ er = 3 ∨ er = 6 ∧ (afterF c F op cn t draw).2.2 = false then (0, clock, F)
  else if (afterF c F op cn t draw).2.2 = true ∧ er = (afterF c F op cn t draw).2.1 then (0, clock, F.put cn (afterF c F op cn t draw).1)
  else (6, clock, F)
 else (8, clock, F)
theorem do_any {g m s : Nat} {c : Cf} {clock : Int} {F : SM} (k wk op cn t dr er draw : Int) (hx : (Lit.int .i64 cn).wf = true) (hs : s < 1000000) (w : World) (hB : BookIs w g m s c clock F) :
  Calls Try.prog 38 #[.pointer (some ⟨g, 0, none⟩), .agg (evA k wk op cn t dr er), .int .i64 draw] w (DoPost g m s c (doF c clock F k wk op cn t dr er draw) w) := by
 have CR := Aside0.mk (fun W => right_calls k wk op cn t dr er W)
 unfold doF
 cases hr : lrB k wk op cn t dr er with
 | false =>
  rw [if_pos rfl]
  exact do_wrong k wk op cn t dr er draw _ hr w hB CR
 | true =>
  rw [if_neg (by decide)]
  by_cases k1 : k = 1
  ·rw [if_pos k1]
   by_cases ht : t = wrap64 (clock + 1)
   ·rw [if_pos ht]
    exact do_tick k wk op cn t dr er draw _ hr k1 ht w hB CR
   ·rw [if_neg ht]
    exact do_tick_no k wk op cn t dr er draw _ hr k1 ht w hB CR
  rw [if_neg k1]
  by_cases k4 : k = 4
  ·rw [if_pos k4]
   exact do_act k wk op cn t dr er draw _ hr k4 _ _ (fun W h => act_any k wk op cn t dr er hx hs W h) w hB CR
  rw [if_neg k4]
  by_cases k3 : k = 3
  ·rw [if_pos k3]
   have ca : ∀ W, BookIs W g m s c clock F → Calls Try.prog 65 #[.pointer (some ⟨g, 0, none⟩), .agg (evA k wk op cn t dr er), .int .i64 draw] W fun e w' => e = .returned (.tuple #[stV (afterF c F op cn t draw).1, .int .i64 (afterF c F op cn t draw).2.1, .bool (afterF c F op cn t draw).2.2]) ∧ Below W.heap.size W w' := fun W h => after_any k wk op cn t dr er draw hx W h
   generalize afterF c F op cn t draw = q at ca ⊢
   obtain ⟨⟨a, b, d⟩, code, can⟩ := q
   simp only at ca ⊢
   by_cases e1 : er = 1
   ·rw [if_pos (.inl e1)]
    exact do_point_still1 k wk op cn t dr er draw _ hr k3 a b d code can ca e1 w hB CR
   by_cases e3 : er = 3
   ·rw [if_pos (.inr (.inl e3))]
    exact do_point_still3 k wk op cn t dr er draw _ hr k3 a b d code can ca e3 w hB CR
   by_cases e6 : er = 6
   ·cases can with
    | false =>
     rw [if_pos (.inr (.inr ⟨e6, rfl⟩))]
     exact do_point_still6 k wk op cn t dr er draw _ hr k3 a b d code false ca e6 rfl w hB CR
    | true =>
     rw [if_neg (by rintro (q | q | q); exact e1 q; exact e3 q; cases q.2)]
     by_cases hc : er = code
     ·rw [if_pos ⟨rfl, hc⟩]
      exact do_point_yes6 k wk op cn t dr er draw _ hs hx hr k3 a b d code true ca e6 rfl ⟨rfl, hc⟩ w hB CR
     ·rw [if_neg (fun q => hc q.2)]
      exact do_point_no6 k wk op cn t dr er draw _ hr k3 a b d code true ca e6 rfl hc w hB CR
   rw [if_neg (by rintro (q | q | q); exact e1 q; exact e3 q; exact e6 q.1)]
   cases can with
   | false =>
    rw [if_neg (by rintro ⟨q, _⟩; cases q)]
    exact do_point_nof k wk op cn t dr er draw _ hr k3 a b d code false ca ⟨e1, e3, e6⟩ rfl w hB CR
   | true =>
    by_cases hc : er = code
    ·rw [if_pos ⟨rfl, hc⟩]
     exact do_point_yes k wk op cn t dr er draw _ hs hx hr k3 a b d code true ca ⟨e1, e3, e6⟩ ⟨rfl, hc⟩ w hB CR
    ·rw [if_neg (fun q => hc q.2)]
     exact do_point_no k wk op cn t dr er draw _ hr k3 a b d code true ca ⟨e1, e3, e6⟩ rfl hc w hB CR
  ·rw [if_neg k3]
   exact do_other k wk op cn t dr er draw _ hr k1 k3 k4 w hB CR
def cfCode (c : Cf) : Int := (cfBad [c.c0, c.c1, c.c2, c.c3, c.c4, c.c5, c.c6, c.c7, c.c8, c.c9, c.c10, c.c11, c.c12] 13 0).2
theorem new_is (c : Cf) (w : World) : Calls Try.prog 36 #[.agg c.cells] w (NewPost c (cfCode c) w) :=
 new_any c _ _ ⟨fun W => Kw.plan_Check.go [c.c0, c.c1, c.c2, c.c3, c.c4, c.c5, c.c6, c.c7, c.c8, c.c9, c.c10, c.c11, c.c12] rfl W⟩ w
end Go.Proofs.Ythljanmfanppdaa.Bk
end
section
namespace Go.Proofs.Ythljanmfanppdaa.Bk
open Go.RowKit Go.Maps Go.Proofs.YthljanmfanppdaaW.PrintWords Go.Proofs.YthljanmfanppdaaW.PrintLast Go.Proofs.YthljanmfanppdaaW.PrintMore Go.Proofs.Ythljanmfanppdaa.Mp
set_option linter.unusedVariables false
set_option linter.unusedSimpArgs false
structure Ev7 where
 k : Int
 wk : Int
 op : Int
 cn : Int
 t : Int
 dr : Int
 er : Int
abbrev Ev7.cells (e : Ev7) : Array Value := evA e.k e.wk e.op e.cn e.t e.dr e.er
def doE (c : Cf) (s : Int × SM) (e : Ev7) (draw : Int) : Int × Int × SM := doF c s.1 s.2 e.k e.wk e.op e.cn e.t e.dr e.er draw
end Go.Proofs.Ythljanmfanppdaa.Bk
end
section
namespace Go.Proofs.Ythljanmfanppdaa.Vd
open Go.RowKit Go.Proofs.Ythljanmfanppdaa.Bk
set_option linter.unusedVariables false
set_option linter.unusedSimpArgs false
structure Wk where
 e : Ev7
 beg : Int
 pt : Bool
 cd : Int
structure Vb where
 clk : Int
 F : SM
 wks : Int → Option Wk
def vb0 : Vb := ⟨0, fun _ => none, fun _ => none⟩
def updW (f : Int → Option Wk) (x : Int) (v : Option Wk) : Int → Option Wk := fun l => if l = x then v else f l
def rightV (e : Ev7) : Bool := lrB e.k e.wk e.op e.cn e.t e.dr e.er
def Vb.do_ (c : Cf) (b : Vb) (e : Ev7) (dr : Int) : Vb × Int := ({ b with clk := (doE c (b.clk, b.F) e dr).2.1, F := (doE c (b.clk, b.F) e dr).2.2 }, (doE c (b.clk, b.F) e dr).1)
def timedB (e : Ev7) : Bool := e.er != 1 && (e.er != 3 && e.er != 6)
def pointBad (b : Vb) (w : Wk) (e : Ev7) : Bool := w.pt || (e.cn != w.e.cn || (timedB e && (decide (e.t < w.beg) || decide (e.t > b.clk))))
def pointV (c : Cf) (b : Vb) (w : Wk) (e : Ev7) : Vb × Int :=
 if pointBad b w e = true then (b, 6)
 else if (b.do_ c e w.e.dr).2 = 0 then ({ (b.do_ c e w.e.dr).1 with wks := updW b.wks e.wk (some { w with pt := true, cd := e.er }) }, 0)
 else b.do_ c e w.e.dr
def hearV (c : Cf) (b : Vb) (e : Ev7) : Vb × Int :=
 if rightV e = false ∨ c.c0 ≤ e.wk then (b, 8)
 else if e.k = 1 then b.do_ c e 0
 else match b.wks e.wk with
 | none => if e.k = 2 then ({ b with wks := updW b.wks e.wk (some ⟨e, b.clk, false, 0⟩) }, 0) else (b, 6)
 | some w =>
  if e.k = 2 then (b, 6)
  else if e.k = 4 then (if w.e.op ≠ 6 ∨ e.t < w.beg then (b, 6) else b.do_ c e 0)
  else if w.e.op ≠ e.op then (b, 6)
  else if e.k = 3 then pointV c b w e
  else if e.op ≠ 6 ∧ (w.pt = false ∨ w.cd ≠ e.er) then (b, 6)
  else ({ b with wks := updW b.wks e.wk none }, 0)
def goV (c : Cf) (b : Vb) : List Ev7 → Option (Nat × Int)
 | [] => none
 | e :: l => if (hearV c b e).2 = 0 then (goV c (hearV c b e).1 l).map (fun p => (p.1 + 1, p.2)) else some (0, (hearV c b e).2)
def outV : Option (Nat × Int) → Int × Int
 | none => (-1, 0)
 | some (i, k) => ((i : Int), k)
def judgeV (c : Cf) (l : List Ev7) : Int × Int := if cfCode c ≠ 0 then (-1, cfCode c) else outV (goV c vb0 l)
def benchV (c : Cf) (b : Vb) : List Ev7 → Vb
 | [] => b
 | e :: l => benchV c (hearV c b e).1 l
theorem benchV_snoc (c : Cf) (b : Vb) (l : List Ev7) (e : Ev7) : benchV c b (l ++ [e]) = (hearV c (benchV c b l) e).1 := by
 induction l generalizing b with
 | nil => rfl
 | cons x l ih => exact ih _
theorem goV_some {c : Cf} {b : Vb} {l : List Ev7} {i : Nat} {k : Int} (h : goV c b l = some (i, k)) : i < l.length ∧ k ≠ 0 ∧ (∀ n, n ≤ i → goV c b (l.take n) = none) := by
 induction l generalizing b i with
 | nil => cases h
 | cons e l ih =>
  unfold goV at h
  by_cases hk : (hearV c b e).2 = 0
  ·rw [if_pos hk] at h
   cases hg : goV c (hearV c b e).1 l with
   | none => rw [hg] at h; cases h
   | some p =>
    obtain ⟨j, q⟩ := p
    rw [hg] at h
    simp only [Option.map_some, Option.some.injEq, Prod.mk.injEq] at h
    obtain ⟨rfl, rfl⟩ := h
    obtain ⟨h1, h2, h3⟩ := ih hg
    refine ⟨by simpa using h1, h2, fun n hn => ?_⟩
    cases n with
    | zero => rfl
    | succ n =>
     rw [List.take_succ_cons, goV, if_pos hk, h3 n (by omega)]
     rfl
  ·rw [if_neg hk] at h
   simp only [Option.some.injEq, Prod.mk.injEq] at h
   obtain ⟨rfl, rfl⟩ := h
   refine ⟨by simp, hk, fun n hn => ?_⟩
   obtain rfl : n = 0 := by omega
   rfl
theorem goV_none {c : Cf} {b : Vb} {l : List Ev7} (h : goV c b l = none) (n : Nat) : goV c b (l.take n) = none := by
 induction l generalizing b n with
 | nil => rw [List.take_nil]; exact h
 | cons e l ih =>
  cases n with
  | zero => rfl
  | succ n =>
   unfold goV at h
   by_cases hk : (hearV c b e).2 = 0
   ·rw [if_pos hk] at h
    rw [List.take_succ_cons, goV, if_pos hk, ih (Option.map_eq_none_iff.1 h) n]
    rfl
   ·rw [if_neg hk] at h; cases h
theorem goV_snoc (c : Cf) (b : Vb) (l : List Ev7) (e : Ev7) (h : goV c b l = none) : goV c b (l ++ [e]) = if (hearV c (benchV c b l) e).2 = 0 then none else some (l.length, (hearV c (benchV c b l) e).2) := by
 induction l generalizing b with
 | nil =>
  show goV c b [e] = _
  unfold goV benchV
  split <;> rfl
 | cons x l ih =>
  unfold goV at h
  by_cases hk : (hearV c b x).2 = 0
  ·rw [if_pos hk] at h
   rw [List.cons_append, goV, if_pos hk, ih _ (Option.map_eq_none_iff.1 h), benchV]
   split <;> rfl
  ·rw [if_neg hk] at h; cases h
theorem goV_last {c : Cf} {b : Vb} {l : List Ev7} {e : Ev7} (h : goV c b (l ++ [e]) = none) : goV c b l = none ∧ (hearV c (benchV c b l) e).2 = 0 := by
 have h1 : goV c b l = none := by
  have := goV_none h l.length
  rwa [List.take_left'] at this
  rfl
 refine ⟨h1, Classical.byContradiction fun hn => ?_⟩
 rw [goV_snoc c b l e h1, if_neg hn] at h
 cases h
theorem goV_app {c : Cf} {b : Vb} {l l' : List Ev7} {p : Nat × Int} (h : goV c b l = some p) : goV c b (l ++ l') = some p := by
 induction l generalizing b p with
 | nil => cases h
 | cons x l ih =>
  unfold goV at h
  rw [List.cons_append, goV]
  by_cases hk : (hearV c b x).2 = 0
  ·rw [if_pos hk] at h
   rw [if_pos hk]
   cases hg : goV c (hearV c b x).1 l with
   | none => rw [hg] at h; cases h
   | some q => rw [hg] at h; rw [ih hg]; exact h
  ·rw [if_neg hk] at h
   rw [if_neg hk]
   exact h
structure Ad where
 beg : Int
 clk : Int
 thr : Bool
structure Sv where
 adv : Int → List Ad
 snc : Int → Option Int
 mak : Int → Option Int
def sv0 : Sv := ⟨fun _ => [], fun _ => none, fun _ => none⟩
def updA (f : Int → List Ad) (x : Int) (v : List Ad) : Int → List Ad := fun l => if l = x then v else f l
def updI (f : Int → Option Int) (x : Int) (v : Int) : Int → Option Int := fun l => if l = x then some v else f l
def delI (f : Int → Option Int) (x : Int) : Int → Option Int := fun l => if l = x then none else f l
def dropI (f : Int → Option Int) (v : Int) : Int → Option Int := fun l => if f l = some v then none else f l
def thrL (l : List Ad) : List Ad := match l[l.length - 1]? with
 | none => l
 | some a => l.set (l.length - 1) { a with thr := true }
def ptS (s : Sv) (i : Nat) (e : Ev7) : Sv :=
 if e.op = 2 then (if 0 ≤ (s.snc e.cn).getD 0 then { s with snc := updI s.snc e.cn i } else s)
 else { s with mak := updI (dropI s.mak (wrap64 (e.cn + 1))) e.wk (wrap64 (e.cn + 1)), snc := updI s.snc e.cn (-1) }
def backS (s : Sv) (i : Nat) (e : Ev7) : Sv :=
 { s with snc := if 0 ≤ wrap64 ((s.mak e.wk).getD 0 - 1) then updI s.snc (wrap64 ((s.mak e.wk).getD 0 - 1)) i else s.snc, mak := delI s.mak e.wk }
def stepS (p : Sv × Int) (i : Nat) (e : Ev7) : Sv × Int :=
 if e.k = 1 then (p.1, e.t)
 else if e.k = 2 ∧ e.op = 6 then ({ p.1 with adv := updA p.1.adv e.wk (p.1.adv e.wk ++ [⟨i, p.2, false⟩]) }, p.2)
 else if e.k = 5 ∧ e.op = 6 then ({ p.1 with adv := updA p.1.adv e.wk (thrL (p.1.adv e.wk)) }, p.2)
 else if e.k = 5 then (backS p.1 i e, p.2)
 else if e.k = 3 ∧ e.er = 0 then (ptS p.1 i e, p.2)
 else p
def readS (l : List Ev7) : Nat → Sv × Int
 | 0 => (sv0, 0)
 | n + 1 => match l[n]? with
  | none => readS l n
  | some e => stepS (readS l n) n e
def goneV (n : Int) (s : Sv) (since at_ : Int) : Bool := (List.range n.toNat).all fun w => (s.adv (w : Int)).any fun a => a.thr && (decide (a.beg > since) && decide (a.clk ≥ at_))
def dueV (c : Cf) (t : St) : Int := if t.1 = 1 then idleI c t.2.2 else t.2.2
def lateB (c : Cf) (F : SM) (s : Sv) (x : Int) : Bool :=
 ((F.at_ x).1 == 1 || (F.at_ x).1 == 2) && ((s.snc x).isSome && (decide (0 ≤ (s.snc x).getD 0) && goneV c.c0 s ((s.snc x).getD 0) (wrap64 (dueV c (F.at_ x) + c.c5))))
def lateL (c : Cf) (F : SM) (s : Sv) (n : Nat) : List Int := ((List.range n).filter (fun x : Nat => lateB c F s (x : Int))).map (fun x : Nat => (x : Int))
def lateV (c : Cf) (l : List Ev7) : List Int := if (judgeV c l).2 ≠ 0 then [] else lateL c (benchV c vb0 l).F (readS l l.length).1 c.c7.toNat
def RdOk (l : List Ev7) : Prop := ∀ i e, l[i]? = some e → e.k = 5 → e.op = 6 → (readS l i).1.adv e.wk ≠ []
inductive Heard (c : Cf) (b : Vb) (e : Ev7) : Vb → Prop
 | tick (hk : e.k = 1) (hd : (b.do_ c e 0).2 = 0) : Heard c b e (b.do_ c e 0).1
 | invoke (hk : e.k = 2) (hw : b.wks e.wk = none) : Heard c b e { b with wks := updW b.wks e.wk (some ⟨e, b.clk, false, 0⟩) }
 | act (hk : e.k = 4) (w : Wk) (hw : b.wks e.wk = some w) (ho : w.e.op = 6) (ht : ¬ e.t < w.beg) (hd : (b.do_ c e 0).2 = 0) : Heard c b e (b.do_ c e 0).1
 | point (hk : e.k = 3) (w : Wk) (hw : b.wks e.wk = some w) (ho : w.e.op = e.op) (hp : pointBad b w e = false) (hd : (b.do_ c e w.e.dr).2 = 0) : Heard c b e { (b.do_ c e w.e.dr).1 with wks := updW b.wks e.wk (some { w with pt := true, cd := e.er }) }
 | back (hk : e.k = 5) (w : Wk) (hw : b.wks e.wk = some w) (ho : w.e.op = e.op) (ha : e.op = 6 ∨ (w.pt = true ∧ w.cd = e.er)) : Heard c b e { b with wks := updW b.wks e.wk none }
theorem right_k {e : Ev7} (h : rightV e = true) : e.k = 1 ∨ e.k = 2 ∨ e.k = 3 ∨ e.k = 4 ∨ e.k = 5 := by
 unfold rightV lrB lkOk at h
 simp only [Bool.and_eq_true, Bool.or_eq_true, beq_iff_eq] at h
 omega
theorem heard {c : Cf} {b : Vb} {e : Ev7} (h : (hearV c b e).2 = 0) : rightV e = true ∧ e.wk < c.c0 ∧ Heard c b e (hearV c b e).1 := by
 unfold hearV at h ⊢
 by_cases hr : rightV e = false ∨ c.c0 ≤ e.wk
 ·rw [if_pos hr] at h; simp at h
 rw [if_neg hr] at h ⊢
 have hr1 : rightV e = true := by
  cases hq : rightV e with
  | true => rfl
  | false => exact absurd (.inl hq) hr
 refine ⟨hr1, by omega, ?_⟩
 by_cases k1 : e.k = 1
 ·rw [if_pos k1] at h ⊢
  exact .tick k1 h
 rw [if_neg k1] at h ⊢
 cases hw : b.wks e.wk with
 | none =>
  rw [hw] at h
  simp only at h ⊢
  by_cases k2 : e.k = 2
  ·rw [if_pos k2]; exact .invoke k2 hw
  ·rw [if_neg k2] at h; simp at h
 | some w =>
  rw [hw] at h
  simp only at h ⊢
  by_cases k2 : e.k = 2
  ·rw [if_pos k2] at h; simp at h
  rw [if_neg k2] at h ⊢
  by_cases k4 : e.k = 4
  ·rw [if_pos k4] at h ⊢
   by_cases hc : w.e.op ≠ 6 ∨ e.t < w.beg
   ·rw [if_pos hc] at h; simp at h
   ·rw [if_neg hc] at h ⊢
    exact .act k4 w hw (by omega) (by omega) h
  rw [if_neg k4] at h ⊢
  by_cases ho : w.e.op ≠ e.op
  ·rw [if_pos ho] at h; simp at h
  rw [if_neg ho] at h ⊢
  have ho' : w.e.op = e.op := by omega
  by_cases k3 : e.k = 3
  ·rw [if_pos k3] at h ⊢
   unfold pointV at h ⊢
   cases hp : pointBad b w e with
   | true => rw [hp] at h; simp at h
   | false =>
    rw [hp] at h
    rw [if_neg (by decide)] at h ⊢
    by_cases hd : (b.do_ c e w.e.dr).2 = 0
    ·rw [if_pos hd]
     exact .point k3 w hw ho' hp hd
    ·rw [if_neg hd] at h
     exact absurd h hd
  rw [if_neg k3] at h ⊢
  by_cases hc : e.op ≠ 6 ∧ (w.pt = false ∨ w.cd ≠ e.er)
  ·rw [if_pos hc] at h; simp at h
  ·rw [if_neg hc]
   have k5 : e.k = 5 := by rcases right_k hr1 with q | q | q | q | q <;> omega
   refine .back k5 w hw ho' ?_
   by_cases o6 : e.op = 6
   ·exact .inl o6
   ·refine .inr ⟨?_, ?_⟩
    ·cases hp : w.pt with
     | true => rfl
     | false => exact absurd ⟨o6, .inl hp⟩ hc
    ·exact Classical.byContradiction fun q => hc ⟨o6, .inr q⟩
theorem readS_take (l : List Ev7) (e : Ev7) : ∀ n, n ≤ l.length → readS (l ++ [e]) n = readS l n
 | 0, _ => rfl
 | n + 1, h => by
  have h1 : (l ++ [e])[n]? = l[n]? := List.getElem?_append_left (by omega)
  unfold readS
  rw [h1, readS_take l e n (by omega)]
theorem readS_snoc (l : List Ev7) (e : Ev7) : readS (l ++ [e]) (l ++ [e]).length = stepS (readS l l.length) l.length e := by
 rw [List.length_append, List.length_singleton]
 show (match (l ++ [e])[l.length]? with | none => readS (l ++ [e]) l.length | some e' => stepS (readS (l ++ [e]) l.length) l.length e') = _
 rw [List.getElem?_append_right (Nat.le_refl _), Nat.sub_self]
 simp only [List.getElem?_cons_zero]
 rw [readS_take l e _ (Nat.le_refl _)]
theorem thrL_ne {l : List Ad} (h : l ≠ []) : thrL l ≠ [] := by
 unfold thrL
 split
 ·exact h
 ·intro q
  have := congrArg List.length q
  rw [List.length_set] at this
  exact h (List.length_eq_zero_iff.1 (by simpa using this))
theorem ptS_adv (s : Sv) (i : Nat) (e : Ev7) : (ptS s i e).adv = s.adv := by
 unfold ptS
 split
 ·split <;> rfl
 ·rfl
theorem right_op3 {e : Ev7} (h : rightV e = true) (hk : e.k = 3) : 1 ≤ e.op ∧ e.op ≤ 5 := by
 unfold rightV lrB lkOk ownB at h
 rw [hk] at h
 simp at h
 omega
def Inv1 (b : Vb) (s : Sv) : Prop := ∀ w k, b.wks w = some k → k.e.op = 6 → s.adv w ≠ []
theorem inv1_step {c : Cf} {b : Vb} {s : Sv × Int} {e : Ev7} (h : Inv1 b s.1) (hh : (hearV c b e).2 = 0) (i : Nat) : Inv1 (hearV c b e).1 (stepS s i e).1 := by
 obtain ⟨hr, hw, hd⟩ := heard hh
 generalize (hearV c b e).1 = b' at hd
 intro w k hk ho
 cases hd with
 | tick k1 hd =>
  unfold stepS
  rw [if_pos k1]
  exact h w k hk ho
 | invoke k2 hn =>
  unfold stepS
  rw [if_neg (by omega)]
  by_cases e6 : e.op = 6
  ·rw [if_pos ⟨k2, e6⟩]
   show updA s.1.adv e.wk _ w ≠ []
   unfold updA
   by_cases q : w = e.wk
   ·rw [if_pos q]; simp
   ·rw [if_neg q]
    have : b.wks w = some k := by simpa [updW, q] using hk
    exact h w k this ho
  ·rw [if_neg (fun q => e6 q.2), if_neg (by omega), if_neg (by omega), if_neg (by omega)]
   by_cases q : w = e.wk
   ·have : k = ⟨e, b.clk, false, 0⟩ := by simpa [updW, q, eq_comm] using hk
    rw [this] at ho
    exact absurd ho e6
   ·have : b.wks w = some k := by simpa [updW, q] using hk
    exact h w k this ho
 | act k4 w0 hw0 h6 ht hd =>
  unfold stepS
  rw [if_neg (by omega), if_neg (by omega), if_neg (by omega), if_neg (by omega), if_neg (by omega)]
  exact h w k hk ho
 | point k3 w0 hw0 h6 hp hd =>
  have hop := right_op3 hr k3
  have hs : (stepS s i e).1.adv = s.1.adv := by
   unfold stepS
   rw [if_neg (by omega), if_neg (by omega), if_neg (by omega), if_neg (by omega)]
   split
   ·exact ptS_adv _ _ _
   ·rfl
  rw [hs]
  by_cases q : w = e.wk
  ·have : k = { w0 with pt := true, cd := e.er } := by simpa [updW, q, eq_comm] using hk
   rw [this] at ho
   simp only at ho
   omega
  ·have : b.wks w = some k := by simpa [updW, q] using hk
   exact h w k this ho
 | back k5 w0 hw0 h6 ha =>
  by_cases q : w = e.wk
  ·have : False := by simp [updW, q] at hk
   exact this.elim
  have hk' : b.wks w = some k := by simpa [updW, q] using hk
  unfold stepS
  rw [if_neg (by omega), if_neg (by omega)]
  split
  ·show updA s.1.adv e.wk _ w ≠ []
   unfold updA
   rw [if_neg q]
   exact h w k hk' ho
  ·exact h w k hk' ho
theorem snoc_ind {P : List Ev7 → Prop} (h0 : P []) (h1 : ∀ l e, P l → P (l ++ [e])) (l : List Ev7) : P l := by
 have : ∀ n (l : List Ev7), l.length = n → P l := by
  intro n
  induction n with
  | zero => intro l hl; rw [List.length_eq_zero_iff.1 hl]; exact h0
  | succ n ih =>
   intro l hl
   rcases List.eq_nil_or_concat l with rfl | ⟨l', e, rfl⟩
   ·simp at hl
   ·rw [List.concat_eq_append] at hl ⊢
    exact h1 l' e (ih l' (by simpa using hl))
 exact this _ l rfl
theorem inv1 {c : Cf} (l : List Ev7) : goV c vb0 l = none → Inv1 (benchV c vb0 l) (readS l l.length).1 := by
 induction l using snoc_ind with
 | h0 => intro _ w k hk; cases hk
 | h1 l e ih =>
  intro h
  obtain ⟨h1, h2⟩ := goV_last h
  rw [benchV_snoc, readS_snoc]
  exact inv1_step (ih h1) h2 _
theorem readS_pre (l : List Ev7) : ∀ n, n ≤ l.length → readS l n = readS (l.take n) (l.take n).length
 | 0, _ => rfl
 | n + 1, h => by
  have hn : n < l.length := by omega
  rw [List.take_succ_eq_append_getElem hn, readS_snoc, ← readS_pre l n (by omega)]
  show (match l[n]? with | none => readS l n | some e => stepS (readS l n) n e) = _
  rw [List.getElem?_eq_getElem hn, List.length_take, Nat.min_eq_left (by omega)]
theorem rd_ok {c : Cf} {l : List Ev7} (h : goV c vb0 l = none) : RdOk l := by
 intro i e he k5 o6
 have hi : i < l.length := (List.getElem?_eq_some_iff.1 he).1
 have hl : l[i] = e := (List.getElem?_eq_some_iff.1 he).2
 have h1 := goV_none h (i + 1)
 rw [List.take_succ_eq_append_getElem hi, hl] at h1
 obtain ⟨h2, h3⟩ := goV_last h1
 have hI := inv1 _ h2
 rw [readS_pre l i (by omega)]
 obtain ⟨_, _, hd⟩ := heard h3
 generalize (hearV c (benchV c vb0 (l.take i)) e).1 = b' at hd
 cases hd with
 | tick k1 hd => omega
 | invoke k2 hn => omega
 | act k4 w0 hw0 h6 ht hd => omega
 | point k3 w0 hw0 h6 hp hd => omega
 | back _ w0 hw0 h6 ha => exact hI _ _ hw0 (by omega)
end Go.Proofs.Ythljanmfanppdaa.Vd
end
section
namespace Go.Proofs.Ythljanmfanppdaa.Vd
open Go.RowKit Go.Maps Go.Proofs.YthljanmfanppdaaW.PrintWords Go.Proofs.YthljanmfanppdaaW.PrintLast Go.Proofs.YthljanmfanppdaaW.PrintMore Go.Proofs.Ythljanmfanppdaa.Mp Go.Proofs.Ythljanmfanppdaa.Bk
set_option linter.unusedVariables false
set_option linter.unusedSimpArgs false
section
variable {α : Type}
def RowIs (w : World) (B T k : Nat) (A : α → Array Value) (v : Value) (l : List α) : Prop := w.ownsRow B T k v l.length (l.flatMap fun x => (A x).toList)
theorem flat_get {A : α → Array Value} {k : Nat} (hA : ∀ x, (A x).size = k) : ∀ (l : List α) (i j : Nat) (x : α), l[i]? = some x → j < k → (l.flatMap fun x => (A x).toList)[i * k + j]? = (A x)[j]?
 | [], i, j, x, h, hj => by simp at h
 | y :: l, 0, j, x, h, hj => by
  obtain rfl : y = x := by simpa using h
  rw [List.flatMap_cons, List.getElem?_append_left (by simp [hA]; omega)]
  simp
 | y :: l, i + 1, j, x, h, hj => by
  rw [List.flatMap_cons, List.getElem?_append_right (by simp only [Array.length_toList, hA]; rw [Nat.succ_mul]; omega)]
  rw [Array.length_toList, hA, show (i + 1) * k + j - k = i * k + j by rw [Nat.succ_mul]; omega]
  exact flat_get hA l i j x (by simpa using h) hj
theorem flat_set {A : α → Array Value} {k : Nat} (hA : ∀ x, (A x).size = k) : ∀ (l : List α) (i j : Nat) (x x' : α) (u : Value), l[i]? = some x → j < k → A x' = (A x).setIfInBounds j u → ((l.set i x').flatMap fun x => (A x).toList) = (l.flatMap fun x => (A x).toList).set (i * k + j) u
 | [], i, j, x, x', u, h, hj, e => by simp at h
 | y :: l, 0, j, x, x', u, h, hj, e => by
  obtain rfl : y = x := by simpa using h
  rw [sQ1, List.flatMap_cons, List.flatMap_cons, Nat.zero_mul, Nat.zero_add, List.set_append, if_pos (by simp [hA]; omega), e]
  simp
 | y :: l, i + 1, j, x, x', u, h, hj, e => by
  rw [sQ2, List.flatMap_cons, List.flatMap_cons, flat_set hA l i j x x' u (by simpa using h) hj e]
  rw [List.set_append, if_neg (by simp only [Array.length_toList, hA]; rw [Nat.succ_mul]; omega)]
  rw [Array.length_toList, hA, show (i + 1) * k + j - k = i * k + j by rw [Nat.succ_mul]; omega]
section
variable {w w1 : World} {B T k : Nat} {A : α → Array Value} {v : Value} {l : List α}
theorem RowIs.nil (w : World) (B T k : Nat) (A : α → Array Value) : RowIs w B T k A (.slice none 0 0) ([] : List α) := World.ownsRow_nil w B T k
theorem RowIs.at_ (h : RowIs w B T k A v l) (hA : ∀ x, (A x).size = k) {i : Nat} {x : α} (hx : l[i]? = some x) : ∃ g cap, v = .slice (some ⟨g, 0, none⟩) l.length cap ∧ l.length ≤ cap ∧ g < w.heap.size ∧ ∀ j, j < k → w.cell? ⟨g, i * k + j, none⟩ = (A x)[j]? := by
 have hi : i < l.length := (List.getElem?_eq_some_iff.1 hx).1
 rcases h.2 with ⟨rfl, hn⟩ | ⟨g, cap, cur, rfl, _, hg, hnc, _, hcs, htake⟩
 ·omega
 ·refine ⟨g, cap, rfl, hnc, blk_lt hg, fun j hj => ?_⟩
  have hlt : i * k + j < l.length * k := by
   have : (i + 1) * k ≤ l.length * k := Nat.mul_le_mul_right _ hi
   rw [Nat.succ_mul] at this
   omega
  rw [blk_cell hg, ← flat_get hA l i j x hx hj, ← htake, List.getElem?_take_of_lt hlt]
  simp
theorem RowIs.put {g cap : Nat} (h : RowIs w B T k A (.slice (some ⟨g, 0, none⟩) l.length cap) l) (hA : ∀ x, (A x).size = k) {i j : Nat} {x x' : α} {u : Value} (hx : l[i]? = some x) (hj : j < k) (e : A x' = (A x).setIfInBounds j u) :
  RowIs (w.setCell ⟨g, i * k + j, none⟩ u) B T k A (.slice (some ⟨g, 0, none⟩) (l.set i x').length cap) (l.set i x') := by
 have hi : i < l.length := (List.getElem?_eq_some_iff.1 hx).1
 unfold RowIs
 rw [flat_set hA l i j x x' u hx hj e]
 rcases h.2 with ⟨hn, _⟩ | ⟨g', cap', cur, hv, hb, hg, hnc, hcm, hcs, htake⟩
 ·cases hn
 ·obtain ⟨rfl, rfl⟩ : g' = g ∧ cap' = cap := by injection hv with a b c; injection a with a; injection a with a; exact ⟨a.symm, c.symm⟩
  refine ⟨by rw [List.length_set, List.length_set]; exact h.1, .inr ⟨g', cap', cur.setIfInBounds (i * k + j) u, rfl, hb, blk_set hg _ _, by simpa using hnc, hcm, by simpa using hcs, ?_⟩⟩
  rw [List.length_set, Array.toList_setIfInBounds, ← htake, List.take_set]
theorem RowIs.kept {row : Option Nat} (h : RowIs w B T k A v l) (hg : w.grownBy w1 row) (hne : v.ownBlock = none ∨ v.ownBlock ≠ row) : RowIs w1 B T k A v l := World.ownsRow.kept h hg hne
theorem RowIs.below (h : RowIs w B T k A v l) (hb : Below w.heap.size w w1) : RowIs w1 B T k A v l := pw_own_below h hb
theorem RowIs.own (h : RowIs w B T k A v l) {g : Nat} (hg : v.ownBlock = some g) : ∃ cur, w.heap[g]? = some (.cells cur T (0, 0)) := by
 rcases h.2 with ⟨rfl, hn⟩ | ⟨g', cap, cur, rfl, _, hb, _⟩
 ·cases hg
 ·obtain rfl : g' = g := by simpa [Value.ownBlock] using hg
  exact ⟨cur, hb⟩
theorem RowIs.far (h : RowIs w B T k A v l) {p : Addr} (hp : v.ownBlock ≠ some p.block) (u : Value) : RowIs (w.setCell p u) B T k A v l := by
 refine ⟨h.1, ?_⟩
 rcases h.2 with hn | ⟨g, cap, cur, rfl, hb, hg, rest⟩
 ·exact .inl hn
 ·exact .inr ⟨g, cap, cur, rfl, hb, blk_far hg (fun e => hp (by simp [Value.ownBlock, e])) u, rest⟩
end
theorem RowIs.form {α : Type} {w : World} {B T k : Nat} {A : α → Array Value} {v : Value} {l : List α} (h : RowIs w B T k A v l) : ∃ a cap, v = .slice a l.length cap ∧ l.length ≤ cap := by
 rcases h.2 with ⟨rfl, hn⟩ | ⟨g, cap, cur, rfl, _, hg, hnc, _⟩
 ·exact ⟨none, 0, by rw [hn], by omega⟩
 ·exact ⟨_, cap, rfl, hnc⟩
end
theorem types_ne {w : World} {g g' : Nat} {c c' : Array Value} {t t' : TypeId} (h : w.heap[g]? = some (.cells c t (0, 0))) (h' : w.heap[g']? = some (.cells c' t' (0, 0))) (e : t ≠ t') : g ≠ g' := by
 rintro rfl
 rw [h] at h'
 injection h' with h'
 injection h' with _ h'
 exact e h'
theorem map_ne {w : World} {g g' : Nat} {c : Array Value} {t : TypeId} {es : Array MapEntry} {cl : Nat} (h : w.heap[g]? = some (.cells c t (0, 0))) (h' : w.heap[g']? = some (.map es cl)) : g ≠ g' := by
 rintro rfl
 rw [h] at h'
 injection h' with h'
 cases h'
structure Fr (w w' : World) (S : Nat → Prop) : Prop where
 os : w'.os = w.os
 tape : w'.tape = w.tape
 output : w'.output = w.output
 size : w.heap.size ≤ w'.heap.size
 block : ∀ g, g < w.heap.size → ¬ S g → w'.heap[g]? = w.heap[g]?
section
variable {w w1 w2 : World} {S S' : Nat → Prop}
theorem Fr.refl (w : World) (S : Nat → Prop) : Fr w w S := ⟨rfl, rfl, rfl, Nat.le_refl _, fun _ _ _ => rfl⟩
theorem Fr.trans (h : Fr w w1 S) (h' : Fr w1 w2 S) : Fr w w2 S := ⟨h'.os.trans h.os, h'.tape.trans h.tape, h'.output.trans h.output, Nat.le_trans h.size h'.size, fun g hg hs => (h'.block g (Nat.lt_of_lt_of_le hg h.size) hs).trans (h.block g hg hs)⟩
theorem Fr.mono (h : Fr w w1 S) (hs : ∀ g, S g → S' g) : Fr w w1 S' := ⟨h.os, h.tape, h.output, h.size, fun g hg hn => h.block g hg (fun q => hn (hs g q))⟩
theorem Fr.of_below (h : Below w.heap.size w w1) (S : Nat → Prop) : Fr w w1 S := ⟨h.os, h.tape, h.output, h.size, fun g hg _ => h.block g hg⟩
theorem Fr.of_grown {row : Option Nat} (h : w.grownBy w1 row) : Fr w w1 (fun g => some g = row) := ⟨h.os, h.tape, h.output, h.size, fun g hg hn => h.block g hg hn⟩
theorem Fr.alloc (h : Fr w w1 S) (o : Obj) : Fr w (w1.alloc o) S := h.trans (Fr.of_below (below_alloc (Below.refl _ _) o) S)
theorem Fr.drew (h : Fr w w1 S) : Fr w w1.drew S := ⟨h.os, h.tape, h.output, h.size, h.block⟩
theorem Fr.drewN (h : Fr w w1 S) (n : Nat) : Fr w (w1.drewN n) S := ⟨h.os, h.tape, h.output, h.size, h.block⟩
theorem Fr.set (h : Fr w w1 S) (p : Addr) (u : Value) (hp : w.heap.size ≤ p.block ∨ S p.block) : Fr w (w1.setCell p u) S :=
 ⟨h.os, h.tape, h.output, by simpa using h.size, fun g hg hn => (Below.heap_setCell w1 p u g (fun e => by subst e; rcases hp with q | q; omega; exact hn q)).trans (h.block g hg hn)⟩
theorem Fr.below {B : Nat} (h : Fr w w1 S) (hB : B ≤ w.heap.size) (hs : ∀ g, S g → B ≤ g) : Below B w w1 := ⟨h.os, h.tape, h.output, h.size, fun g hg => h.block g (by omega) (fun q => by have := hs g q; omega)⟩
theorem Fr.blk {g : Nat} {o : Obj} (h : Fr w w1 S) (hb : w.heap[g]? = some o) (hn : ¬ S g) : w1.heap[g]? = some o := (h.block g (blk_lt hb) hn).trans hb
end
abbrev pA (b : Nat) : Value := .pointer (some ⟨b, 0, none⟩)
abbrev wkA (k : Wk) : Array Value := #[.int .i64 k.e.k, .int .i64 k.e.wk, .int .i64 k.e.op, .int .i64 k.e.cn, .int .i64 k.e.t, .int .i64 k.e.dr, .int .i64 k.e.er, .int .i64 k.beg, .bool k.pt, .int .i64 k.cd]
def wV (f : Int → Option Wk) : Int → Option Value := fun x => (f x).map fun k => .agg (wkA k)
def wk0 : Wk := ⟨⟨0, 0, 0, 0, 0, 0, 0⟩, 0, false, 0⟩
theorem zeroWk (w : World) : (zeroValue 124).run Try.prog w = .ok (.agg (wkA wk0)) w := by kernel_rfl
abbrev vbA (g : Nat) (n : Int) (wm : Nat) : Array Value := #[pA g, .int .i64 n, .map (some wm)]
structure VbIs (w : World) (B q g m wm n : Nat) (c : Cf) (b : Vb) : Prop where
 blk : w.heap[q]? = some (.cells (vbA g c.c0 wm) 89 (0, 0))
 book : ∃ s, s ≤ n ∧ BookIs w g m s c b.clk b.F
 mw : ∃ z, z ≤ n ∧ MapIs (Value.int .i64) Try.prog 3 w wm z (wV b.wks)
 hq : B ≤ q
 hg : B ≤ g
 hm : B ≤ m
 hw : B ≤ wm
 mne : m ≠ wm
def vbS (g m wm : Nat) : Nat → Prop := fun k => k = g ∨ k = m ∨ k = wm
section
variable {w w1 : World} {B q g m wm n : Nat} {c : Cf} {b : Vb}
theorem VbIs.move (h : VbIs w B q g m wm n c b) (hb : ∀ k, k < w.heap.size → w1.heap[k]? = w.heap[k]?) : VbIs w1 B q g m wm n c b := by
 obtain ⟨s, hs, hB⟩ := h.book
 obtain ⟨z, hz, hM⟩ := h.mw
 exact ⟨(hb q (blk_lt h.blk)).trans h.blk, ⟨s, hs, hB.move (hb g hB.glt) (hb m hB.mlt)⟩, ⟨z, hz, hM.move (hb wm hM.lt)⟩, h.hq, h.hg, h.hm, h.hw, h.mne⟩
theorem VbIs.below (h : VbIs w B q g m wm n c b) (hb : Below w.heap.size w w1) : VbIs w1 B q g m wm n c b := h.move fun k hk => hb.block k hk
theorem VbIs.alloc (h : VbIs w B q g m wm n c b) (o : Obj) : VbIs (w.alloc o) B q g m wm n c b := h.below (below_alloc (Below.refl _ _) o)
theorem VbIs.drew (h : VbIs w B q g m wm n c b) : VbIs w.drew B q g m wm n c b := h.move fun k hk => rfl
theorem VbIs.drewN (h : VbIs w B q g m wm n c b) (z : Nat) : VbIs (w.drewN z) B q g m wm n c b := h.move fun k hk => rfl
theorem VbIs.up {n' : Nat} (h : VbIs w B q g m wm n c b) (hn : n ≤ n') : VbIs w B q g m wm n' c b := by
 obtain ⟨s, hs, hB⟩ := h.book
 obtain ⟨z, hz, hM⟩ := h.mw
 exact ⟨h.blk, ⟨s, by omega, hB⟩, ⟨z, by omega, hM⟩, h.hq, h.hg, h.hm, h.hw, h.mne⟩
theorem VbIs.lt (h : VbIs w B q g m wm n c b) : q < w.heap.size := blk_lt h.blk
theorem VbIs.cell (h : VbIs w B q g m wm n c b) (i : Nat) : w.cell? ⟨q, i, none⟩ = (vbA g c.c0 wm)[i]? := blk_cell h.blk i
theorem VbIs.mapW (h : VbIs w B q g m wm n c b) : ∃ es cl, w.heap[wm]? = some (.map es cl) := by obtain ⟨z, hz, hM⟩ := h.mw; exact hM.block
theorem VbIs.mapM (h : VbIs w B q g m wm n c b) : ∃ es cl, w.heap[m]? = some (.map es cl) := by obtain ⟨s, hs, hB⟩ := h.book; exact hB.map.block
theorem VbIs.bkb (h : VbIs w B q g m wm n c b) : ∃ cs, w.heap[g]? = some (.cells cs 107 (0, 0)) := by obtain ⟨s, hs, hB⟩ := h.book; exact ⟨_, hB.blk⟩
theorem VbIs.far (h : VbIs w B q g m wm n c b) {k : Nat} {cs : Array Value} {t : TypeId} (hk : w.heap[k]? = some (.cells cs t (0, 0))) (ht : t ≠ 107) : ¬ vbS g m wm k := by
 obtain ⟨_, hg⟩ := h.bkb
 obtain ⟨_, _, hm⟩ := h.mapM
 obtain ⟨_, _, hw⟩ := h.mapW
 rintro (e | e | e)
 ·exact types_ne hk hg ht e
 ·exact map_ne hk hm e
 ·exact map_ne hk hw e
theorem VbIs.gne (h : VbIs w B q g m wm n c b) : g ≠ wm ∧ g ≠ m := by
 obtain ⟨_, hg⟩ := h.bkb
 obtain ⟨_, _, hm⟩ := h.mapM
 obtain ⟨_, _, hw⟩ := h.mapW
 exact ⟨map_ne hg hw, map_ne hg hm⟩
theorem VbIs.fr (h : VbIs w B q g m wm n c b) (hB : B ≤ w.heap.size) (hf : Fr w w1 (vbS g m wm)) : Below B w w1 := hf.below hB (by
 rintro k (e | e | e)
 ·rw [e]; exact h.hg
 ·rw [e]; exact h.hm
 ·rw [e]; exact h.hw)
theorem VbIs.turn {s' n' : Nat} {clk : Int} {F : SM} (h : VbIs w B q g m wm n c b) (hB : BookIs w1 g m s' c clk F) (hs : s' ≤ n') (hn : n ≤ n') (hc : Chg w w1 g m) : VbIs w1 B q g m wm n' c { b with clk := clk, F := F } := by
 obtain ⟨z, hz, hM⟩ := h.mw
 have hq := h.far h.blk (by decide)
 exact ⟨(hc.block q h.lt (fun e => hq (.inl e)) (fun e => hq (.inr (.inl e)))).trans h.blk, ⟨s', hs, hB⟩, ⟨z, by omega, hM.move (hc.block wm hM.lt h.gne.1.symm h.mne.symm)⟩, h.hq, h.hg, h.hm, h.hw, h.mne⟩
theorem chg_fr (hc : Chg w w1 g m) (wm : Nat) : Fr w w1 (vbS g m wm) := ⟨hc.os, hc.tape, hc.output, hc.size, fun k hk hn => hc.block k hk (fun e => hn (.inl e)) (fun e => hn (.inr (.inl e)))⟩
theorem grown_fr (hg : w.grownBy w1 (some wm)) (g m : Nat) : Fr w w1 (vbS g m wm) := (Fr.of_grown hg).mono fun k e => .inr (.inr (Option.some.inj e))
theorem VbIs.put {f : Int → Option Wk} {z' n' : Nat} (h : VbIs w B q g m wm n c b) (hm : MapIs (Value.int .i64) Try.prog 3 w1 wm z' (wV f)) (hz : z' ≤ n') (hn : n ≤ n') (hg : w.grownBy w1 (some wm)) : VbIs w1 B q g m wm n' c { b with wks := f } := by
 obtain ⟨s, hs, hB⟩ := h.book
 obtain ⟨_, _, hw⟩ := h.mapW
 exact ⟨(hg.block q h.lt (fun e => map_ne h.blk hw (Option.some.inj e))).trans h.blk, ⟨s, by omega, hB.move (hg.block g hB.glt (fun e => h.gne.1 (Option.some.inj e))) (hg.block m hB.mlt (fun e => h.mne (Option.some.inj e)))⟩, ⟨z', hz, hm⟩, h.hq, h.hg, h.hm, h.hw, h.mne⟩
theorem VbIs.look (h : VbIs w B q g m wm n c b) {x : Int} (hx : (Lit.int .i64 x).wf = true) (W : World) (hW : W.heap[wm]? = w.heap[wm]?) :
  (Instr.lookup 87 (.map (some wm)) (.int .i64 x) true).run Try.prog W = .ok (.tuple #[.agg (wkA ((b.wks x).getD wk0)), .bool (b.wks x).isSome]) W := by
 obtain ⟨z, hz, hM⟩ := h.mw
 rw [(hM.move hW).look_ok law3 Try.underlying87 (zeroWk W) (x := x) (keyOf_int_mk Try.underlying3 hx)]
 unfold wV
 cases b.wks x <;> rfl
theorem wV_upd (f : Int → Option Wk) (x : Int) (k : Wk) : (fun l => if l = x then some (.agg (wkA k)) else wV f l) = wV (updW f x (some k)) := by
 funext l
 unfold wV updW
 by_cases e : l = x <;> simp [e]
theorem wV_del (f : Int → Option Wk) (x : Int) : (fun l => if l = x then none else wV f l) = wV (updW f x none) := by
 funext l
 unfold wV updW
 by_cases e : l = x <;> simp [e]
theorem vdo_any (e : Ev7) (dr : Int) (hx : (Lit.int .i64 e.cn).wf = true) (hn : n + 1 ≤ 1000000) (h : VbIs w B q g m wm n c b) :
  Calls Try.prog 38 #[pA g, .agg e.cells, .int .i64 dr] w fun r w' => r = .returned (.int .i64 (b.do_ c e dr).2) ∧ VbIs w' B q g m wm (n + 1) c (b.do_ c e dr).1 ∧ Fr w w' (vbS g m wm) := by
 obtain ⟨s, hs, hB⟩ := h.book
 refine (do_any e.k e.wk e.op e.cn e.t e.dr e.er dr hx (by omega) w hB).mono ?_
 rintro r w' ⟨h1, s', h2, h3, h4⟩
 exact ⟨h1, h.turn h3 (by omega) (by omega) h4, chg_fr h4 wm⟩
theorem vclock_any (h : VbIs w B q g m wm n c b) : Calls Try.prog 42 #[pA g] w fun r w' => r = .returned (.int .i64 b.clk) ∧ w = w' := by
 obtain ⟨s, hs, hB⟩ := h.book
 exact clock_any w hB
end
end Go.Proofs.Ythljanmfanppdaa.Vd
end
section
set_option maxHeartbeats 4000000
set_option maxRecDepth 100000
namespace Go.Proofs.Ythljanmfanppdaa.Vd
open Go.RowKit Go.Maps Go.Proofs.YthljanmfanppdaaW.PrintWords Go.Proofs.YthljanmfanppdaaW.PrintLast Go.Proofs.YthljanmfanppdaaW.PrintMore Go.Proofs.Ythljanmfanppdaa.Mp Go.Proofs.Ythljanmfanppdaa.Bk
set_option linter.unusedVariables false
set_option linter.unusedSimpArgs false
theorem still_tail_at' {P : Program} {id : Nat} {Q : Exit → Act → World → Prop} {a : Act} {w : World} {l : List Oper} (n : Nat) (hm : P.follows .mixedOrders = true) (hB : Region.lexTailB .any l.toArray n = true)
  (h : ∀ w2, w2 = w.drew → wpStill P l.toArray w2 (fun a' => wpList P l.toArray Q (l.drop n) a' w2) (l.take n) a) : (Code.region id l.toArray true).wp P Q a w :=
 wp_region_still_tail n hm hB (h _ rfl)
theorem gen_world' {P : Program} {c : Code} {Q : Exit → Act → World → Prop} {a : Act} {w : World} (R : World → Prop) (h : R w) (k : ∀ W, R W → c.wp P Q a W) : c.wp P Q a w := k w h
theorem if_wp {P : Program} {ops : Array Oper} {o : Oper} {a : Act} {W : World} {K : Act → World → Prop} {Q : Exit → Act → World → Prop} {E : Prop} (hgd : o.guard = none) (h : o.wp P a W K Q) : if Region.wanted o (yielded ops a.tmps) = true then Oper.wp P o a W K Q else E := by
 rw [if_pos (by simp [Region.wanted, hgd])]
 exact h
structure Vj (w W : World) (B q g m wm n : Nat) (c : Cf) (b : Vb) (e : Ev7) (eb : Nat) : Prop where
 be : VbIs W B q g m wm n c b
 eb_ : W.heap[eb]? = some (.cells e.cells 60 (0, 0))
 fr : Fr w W (vbS g m wm)
section
variable {w W W1 : World} {B q g m wm n n' eb : Nat} {c : Cf} {b b' : Vb} {e : Ev7}
theorem Vj.step (h : Vj w W B q g m wm n c b e eb) (hb : Below W.heap.size W W1) : Vj w W1 B q g m wm n c b e eb := ⟨h.be.below hb, blk_below h.eb_ hb, h.fr.trans (Fr.of_below hb _)⟩
theorem Vj.alloc (h : Vj w W B q g m wm n c b e eb) (o : Obj) : Vj w (W.alloc o) B q g m wm n c b e eb := h.step (below_alloc (Below.refl _ _) o)
theorem Vj.drew (h : Vj w W B q g m wm n c b e eb) : Vj w W.drew B q g m wm n c b e eb := ⟨h.be.drew, h.eb_, h.fr.drew⟩
theorem Vj.drewN (h : Vj w W B q g m wm n c b e eb) (z : Nat) : Vj w (W.drewN z) B q g m wm n c b e eb := ⟨h.be.drewN z, h.eb_, h.fr.drewN z⟩
theorem Vj.turn (h : Vj w W B q g m wm n c b e eb) (hv : VbIs W1 B q g m wm n' c b') (hf : Fr W W1 (vbS g m wm)) : Vj w W1 B q g m wm n' c b' e eb := ⟨hv, hf.blk h.eb_ (h.be.far h.eb_ (by decide)), h.fr.trans hf⟩
end
structure Wj (w W : World) (B q g m wm n : Nat) (c : Cf) (b : Vb) (e : Ev7) (eb : Nat) (k : Wk) (wb : Nat) : Prop where
 vj : Vj w W B q g m wm n c b e eb
 wb_ : W.heap[wb]? = some (.cells (wkA k) 124 (0, 0))
section
variable {w W W1 : World} {B q g m wm n n' eb wb : Nat} {c : Cf} {b b' : Vb} {e : Ev7} {k : Wk}
theorem Wj.drew (h : Wj w W B q g m wm n c b e eb k wb) : Wj w W.drew B q g m wm n c b e eb k wb := ⟨h.vj.drew, h.wb_⟩
theorem Wj.drewN (h : Wj w W B q g m wm n c b e eb k wb) (z : Nat) : Wj w (W.drewN z) B q g m wm n c b e eb k wb := ⟨h.vj.drewN z, h.wb_⟩
theorem Wj.turn (h : Wj w W B q g m wm n c b e eb k wb) (hv : VbIs W1 B q g m wm n' c b') (hf : Fr W W1 (vbS g m wm)) : Wj w W1 B q g m wm n' c b' e eb k wb := ⟨h.vj.turn hv hf, hf.blk h.wb_ (h.vj.be.far h.wb_ (by decide))⟩
theorem Wj.cells (h : Wj w W B q g m wm n c b e eb k wb) : (∀ i, W.cell? ⟨q, i, none⟩ = (vbA g c.c0 wm)[i]?) ∧ (∀ i, W.cell? ⟨eb, i, none⟩ = (e.cells)[i]?) ∧ (∀ i, W.cell? ⟨wb, i, none⟩ = (wkA k)[i]?) := ⟨fun i => h.vj.be.cell i, fun i => blk_cell h.vj.eb_ i, fun i => blk_cell h.wb_ i⟩
theorem Vj.cells (h : Vj w W B q g m wm n c b e eb) : (∀ i, W.cell? ⟨q, i, none⟩ = (vbA g c.c0 wm)[i]?) ∧ (∀ i, W.cell? ⟨eb, i, none⟩ = (e.cells)[i]?) := ⟨fun i => h.be.cell i, fun i => blk_cell h.eb_ i⟩
theorem Wj.held6 (h : Wj w W B q g m wm n c b e eb k wb) : (∀ i, (W.setCell ⟨wb, 8, none⟩ (.bool true)).cell? ⟨eb, i, none⟩ = (e.cells)[i]?) ∧ (W.setCell ⟨wb, 8, none⟩ (.bool true)).cell? ⟨wb, 9, none⟩ = some (.int .i64 k.cd) ∧ (∀ i, (W.setCell ⟨wb, 8, none⟩ (.bool true)).frozen? ⟨wb, i, none⟩ = false) := by
 have h1 := blk_set h.wb_ 8 (.bool true)
 have h2 : (W.setCell ⟨wb, 8, none⟩ (.bool true)).heap[eb]? = W.heap[eb]? := Below.heap_setCell _ _ _ _ (types_ne h.vj.eb_ h.wb_ (by decide))
 exact ⟨fun i => blk_cell (h2.trans h.vj.eb_) i, blk_cell h1 9, fun i => blk_frozen h1 i⟩
theorem Wj.note (h : Wj w W B q g m wm n c b e eb k wb) (hw : w.heap.size ≤ wb) : Wj w ((W.setCell ⟨wb, 8, none⟩ (.bool true)).setCell ⟨wb, 9, none⟩ (.int .i64 e.er)) B q g m wm n c b e eb { k with pt := true, cd := e.er } wb := by
 have h1 := blk_set h.wb_ 8 (.bool true)
 have h2 := blk_set h1 9 (.int .i64 e.er)
 have far : ∀ z, z ≠ wb → ((W.setCell ⟨wb, 8, none⟩ (.bool true)).setCell ⟨wb, 9, none⟩ (.int .i64 e.er)).heap[z]? = W.heap[z]? := fun z hz => (Below.heap_setCell _ _ _ _ hz).trans (Below.heap_setCell _ _ _ _ hz)
 obtain ⟨s, hs, hB⟩ := h.vj.be.book
 obtain ⟨z, hz, hM⟩ := h.vj.be.mw
 have hnf := h.vj.be.far h.wb_ (by decide)
 have hgw : g ≠ wb := fun e => hnf (.inl e.symm)
 have hmw : m ≠ wb := fun e => hnf (.inr (.inl e.symm))
 have hww : wm ≠ wb := fun e => hnf (.inr (.inr e.symm))
 refine ⟨⟨⟨(far _ (types_ne h.vj.be.blk h.wb_ (by decide))).trans h.vj.be.blk, ⟨s, hs, hB.move (far _ hgw) (far _ hmw)⟩, ⟨z, hz, hM.move (far _ hww)⟩, h.vj.be.hq, h.vj.be.hg, h.vj.be.hm, h.vj.be.hw, h.vj.be.mne⟩, (far _ (types_ne h.vj.eb_ h.wb_ (by decide))).trans h.vj.eb_, (h.vj.fr.set _ _ (.inl hw)).set _ _ (.inl hw)⟩, h2⟩
end
def VPost (w : World) (B q g m wm n : Nat) (c : Cf) (p : Vb × Int) (r : Ending) (w' : World) : Prop := r = .returned (.int .i64 p.2) ∧ VbIs w' B q g m wm (n + 1) c p.1 ∧ Fr w w' (vbS g m wm)
theorem VPost.of {w W : World} {B q g m wm n : Nat} {c : Cf} {p p' : Vb × Int} (h : p = p') {v : Int} (hv : v = p'.2) (hm : VbIs W B q g m wm (n + 1) c p'.1) (hf : Fr w W (vbS g m wm)) : VPost w B q g m wm n c p (.returned (.int .i64 v)) W := by
 subst h
 subst hv
 exact ⟨rfl, hm, hf⟩
theorem vclock_q {w : World} {B q g m wm n : Nat} {c : Cf} {b : Vb} (h : VbIs w B q g m wm n c b) (N : Nat) : Calls Try.prog 42 #[pA g] (w.drewN N) fun r w' => r = .returned (.int .i64 b.clk) ∧ w' = w.drewN N :=
 (vclock_any (h.drewN N)).mono fun _ _ ⟨a, b⟩ => ⟨a, b.symm⟩
def VNew (c : Cf) (code : Int) (w : World) (r : Ending) (w' : World) : Prop :=
 (code ≠ 0 ∧ r = .returned (.tuple #[.pointer none, .int .i64 code]) ∧ Below w.heap.size w w') ∨
 (code = 0 ∧ ∃ q g m wm, r = .returned (.tuple #[pA q, .int .i64 0]) ∧ VbIs w' w.heap.size q g m wm 0 c vb0 ∧ Below w.heap.size w w')
theorem vnew_any (c : Cf) (w : World) : Calls Try.prog 50 #[.agg c.cells] w (VNew c (cfCode c) w) := by
 have hu := Try.underlying89
 have hmm := @run_makeMap Try.prog
 have CN := Aside0.mk (fun W => new_is c W)
 have HB := Aside0.mk (below_alloc (Below.refl w.heap.size w) (.cells c.cells 36))
 have HO := Aside0.mk (heap_alloc_new w (.cells c.cells 36))
 obtain ⟨code, hcode⟩ : ∃ code, cfCode c = code := ⟨_, rfl⟩
 rw [hcode] at CN ⊢
 clear hcode
 by_cases h0 : code = 0
 ·subst h0
  go_enter Try.func50, Try.ntmps50
  go_wp2_with (go_at_call 36; (with_reducible refine (CN.out _).mono ?_); rintro r w1 (⟨h0, _⟩ | ⟨_, g, m, rfl, hg, hm, hB, hb⟩); (exact absurd rfl h0); have n0 := Aside0.mk (below_step HB.out hb); have n1 := Aside0.mk ((hb.block _ (by simp)).trans HO.out); have n2 := Aside0.mk (And.intro hB (And.intro hg hm)); clear HB HO hb hB hg hm; have HB := n0; have HO := n1; clear n0 n1; have hc := fun i => blk_cell HO.out i; have hl := blk_lt HO.out)
  go_ret2
  obtain ⟨hB, hg, hm⟩ := n2.out
  have hz := HB.out.size
  have hsz : w.heap.size ≤ g ∧ w.heap.size ≤ m := by constructor <;> (simp at hg hm; omega)
  have q3 := (MapIs.made (c := Value.int .i64) w1 Try.prog 3).move (w' := (w1.alloc (.map #[] 0)).alloc (.cells (vbA g c.c0 w1.heap.size) 89)) (by rw [Below.heap_alloc _ _ _ (by simp)])
  have qb := blk_new (w1.alloc (.map #[] 0)) (.cells (vbA g c.c0 w1.heap.size) 89)
  rw [show (w1.alloc (.map #[] 0)).heap.size = w1.heap.size + 1 by simp] at qb
  have hpn : wV (fun _ => none) = (fun _ => none : Int → Option Value) := rfl
  refine .inr ⟨rfl, _, g, m, w1.heap.size, rfl, ⟨qb, ⟨0, Nat.le_refl _, (hB.alloc _).alloc _⟩, ⟨0, Nat.le_refl _, by show MapIs _ _ _ _ _ _ (wV (fun _ => none)); rw [hpn]; exact q3⟩, by omega, hsz.1, hsz.2, by omega, by have := hB.mlt; omega⟩, by repeat (first | exact HB.out | apply below_alloc)⟩
 ·have h1 : (code == 0) = false := beq_eq_false_iff_ne.2 h0
  have h2 : (code != 0) = true := bne_iff_ne.2 h0
  have H0 := Aside0.mk h0
  clear h0
  go_enter Try.func50, Try.ntmps50
  go_wp2_with (go_at_call 36; (with_reducible refine (CN.out _).mono ?_); rintro r w1 (⟨_, rfl, hb⟩ | ⟨h0, _⟩); rotate_left; (exact absurd h0 H0.out); have n0 := Aside0.mk (below_step HB.out hb); have n1 := Aside0.mk ((hb.block _ (by simp)).trans HO.out); clear HB HO hb; have HB := n0; have HO := n1; clear n0 n1; have hc := fun i => blk_cell HO.out i)
  go_ret2
  exact .inl ⟨H0.out, rfl, HB.out⟩
def vpR.T4 : Bool × List (List Nat × List Nat) := (true, [([], []), ([0], [0]), ([1], [1]), ([2], [2]), ([], []), ([], []), ([5], [5]), ([6], [6]), ([3, 4, 7], [3, 4, 7]), ([8, 8, 0, 1, 2, 3, 4, 5, 6, 7, 8], [8])])
def vpR.B4 : List Nat := [0, 1, 3, 7, 0, 0, 32, 96, 255, 511]
theorem vpR.tab4 : rtab .any (opsOf Try.f74 4) = vpR.T4 := by kernel_rfl
theorem vpR.bits4 : waitsOk vpR.T4.2 vpR.B4 = true := by kernel_rfl
def vpR.T6 : Bool × List (List Nat × List Nat) := (true, [([], []), ([0], [0]), ([], []), ([2], [2]), ([0, 1, 2, 3], []), ([4, 1, 3, 0, 1, 2, 3], [1, 4])])
def vpR.B6 : List Nat := [0, 1, 0, 4, 15, 31]
theorem vpR.tab6 : rtab .any (opsOf Try.f74 6) = vpR.T6 := by kernel_rfl
theorem vpR.bits6 : waitsOk vpR.T6.2 vpR.B6 = true := by kernel_rfl
theorem blk_new' (w : World) (o o' : Obj) : ((w.alloc o).alloc o').heap[w.heap.size + 1]? = some o' := by
 have q := blk_new (w.alloc o) o'
 rw [show (w.alloc o).heap.size = w.heap.size + 1 by simp] at q
 exact q
theorem vpoint_again_a {w : World} {B q g m wm n : Nat} {c : Cf} {b : Vb} {k : Wk} (e : Ev7) (hx : (Lit.int .i64 e.cn).wf = true) (hwk : (Lit.int .i64 e.wk).wf = true) (hn : n + 1 ≤ 1000000) (h : VbIs w B q g m wm n c b) (hk : b.wks e.wk = some k) (e1 : (e.er != 1) = false) (hp : k.pt = true) :
  Calls Try.prog 74 #[pA q, .agg (wkA k), .agg e.cells] w (VPost w B q g m wm n c (pointV c b k e)) := by
 have hu0 := Try.underlying89
 have hu1 := Try.underlying60
 have hu2 := Try.underlying124
 have HF := Aside0.mk (show pointV c b k e = (b, 6) by unfold pointV; rw [if_pos (show pointBad b k e = true by unfold pointBad; rw [hp]; rfl)])
 have t1 := e1
 have p0 := hp
 have HX := Aside0.mk hx
 have HWK := Aside0.mk hwk
 have HN := Aside0.mk hn
 have HK := Aside0.mk hk
 have HJ := Aside0.mk (show Wj w ((w.alloc (.cells (wkA k) 124)).alloc (.cells e.cells 60)) B q g m wm n c b e (w.heap.size + 1) k w.heap.size from ⟨⟨(h.alloc _).alloc _, blk_new' w _ _, ((Fr.refl w _).alloc _).alloc _⟩, blk_alloc (blk_new w _) _⟩)
 clear hx hwk hn h hk e1 hp
 have hcb := fun i => HJ.out.vj.be.cell i
 have hce := fun i => blk_cell HJ.out.vj.eb_ i
 have hcw := fun i => blk_cell HJ.out.wb_ i
 have hlb := HJ.out.vj.be.lt
 have hle := blk_lt HJ.out.vj.eb_
 have hlw := blk_lt HJ.out.wb_
 go_enter Try.func74, Try.ntmps74
 go_upto_region 2 with (fail)
 refine gen_world' (fun W => Wj w W B q g m wm n c b e (w.heap.size + 1) k w.heap.size) (by exact HJ.out) fun w3 Hw3 => ?_
 have HJw3 := Aside0.mk Hw3
 clear Hw3
 clear hcb hce hcw hlb hle hlw
 have hcb := fun i => HJw3.out.vj.be.cell i
 have hce := fun i => blk_cell HJw3.out.vj.eb_ i
 have hcw := fun i => blk_cell HJw3.out.wb_ i
 have hlb := HJw3.out.vj.be.lt
 have hle := blk_lt HJw3.out.vj.eb_
 have hlw := blk_lt HJw3.out.wb_
 go_quiet (fail)
 go_wp2
 go_ret
 exact VPost.of HF.out rfl ((HJw3.out.drewN _).vj.be.up (by omega)) (HJw3.out.drewN _).vj.fr
theorem vpoint_conn_a {w : World} {B q g m wm n : Nat} {c : Cf} {b : Vb} {k : Wk} (e : Ev7) (hx : (Lit.int .i64 e.cn).wf = true) (hwk : (Lit.int .i64 e.wk).wf = true) (hn : n + 1 ≤ 1000000) (h : VbIs w B q g m wm n c b) (hk : b.wks e.wk = some k) (e1 : (e.er != 1) = false) (hp : k.pt = false) (hc : (e.cn != k.e.cn) = true) :
  Calls Try.prog 74 #[pA q, .agg (wkA k), .agg e.cells] w (VPost w B q g m wm n c (pointV c b k e)) := by
 have hu0 := Try.underlying89
 have hu1 := Try.underlying60
 have hu2 := Try.underlying124
 have HF := Aside0.mk (show pointV c b k e = (b, 6) by unfold pointV; rw [if_pos (show pointBad b k e = true by unfold pointBad; rw [hp, hc]; rfl)])
 have t1 := e1
 have p0 := hp
 have c0 := hc
 have HX := Aside0.mk hx
 have HWK := Aside0.mk hwk
 have HN := Aside0.mk hn
 have HK := Aside0.mk hk
 have HJ := Aside0.mk (show Wj w ((w.alloc (.cells (wkA k) 124)).alloc (.cells e.cells 60)) B q g m wm n c b e (w.heap.size + 1) k w.heap.size from ⟨⟨(h.alloc _).alloc _, blk_new' w _ _, ((Fr.refl w _).alloc _).alloc _⟩, blk_alloc (blk_new w _) _⟩)
 clear hx hwk hn h hk e1 hp hc
 have hcb := fun i => HJ.out.vj.be.cell i
 have hce := fun i => blk_cell HJ.out.vj.eb_ i
 have hcw := fun i => blk_cell HJ.out.wb_ i
 have hlb := HJ.out.vj.be.lt
 have hle := blk_lt HJ.out.vj.eb_
 have hlw := blk_lt HJ.out.wb_
 go_enter Try.func74, Try.ntmps74
 go_upto_region 2 with (fail)
 refine gen_world' (fun W => Wj w W B q g m wm n c b e (w.heap.size + 1) k w.heap.size) (by exact HJ.out) fun w3 Hw3 => ?_
 have HJw3 := Aside0.mk Hw3
 clear Hw3
 clear hcb hce hcw hlb hle hlw
 have hcb := fun i => HJw3.out.vj.be.cell i
 have hce := fun i => blk_cell HJw3.out.vj.eb_ i
 have hcw := fun i => blk_cell HJw3.out.wb_ i
 have hlb := HJw3.out.vj.be.lt
 have hle := blk_lt HJw3.out.vj.eb_
 have hlw := blk_lt HJw3.out.wb_
 go_quiet (fail)
 go_wp2
 go_ret
 exact VPost.of HF.out rfl ((HJw3.out.drewN _).vj.be.up (by omega)) (HJw3.out.drewN _).vj.fr
theorem vpoint_do_a {w : World} {B q g m wm n : Nat} {c : Cf} {b : Vb} {k : Wk} (e : Ev7) (hx : (Lit.int .i64 e.cn).wf = true) (hwk : (Lit.int .i64 e.wk).wf = true) (hn : n + 1 ≤ 1000000) (h : VbIs w B q g m wm n c b) (hk : b.wks e.wk = some k) (e1 : (e.er != 1) = false) (hp : k.pt = false) (hc : (e.cn != k.e.cn) = false) :
  Calls Try.prog 74 #[pA q, .agg (wkA k), .agg e.cells] w (VPost w B q g m wm n c (pointV c b k e)) := by
 have hu0 := Try.underlying89
 have hu1 := Try.underlying60
 have hu2 := Try.underlying124
 have t1 := e1
 have p0 := hp
 have c0 := hc
 have HOK := Aside0.mk (show pointBad b k e = false by unfold pointBad timedB; simp [e1, hp, hc])
 have HX := Aside0.mk hx
 have HWK := Aside0.mk hwk
 have HN := Aside0.mk hn
 have HK := Aside0.mk hk
 have HJ := Aside0.mk (show Wj w ((w.alloc (.cells (wkA k) 124)).alloc (.cells e.cells 60)) B q g m wm n c b e (w.heap.size + 1) k w.heap.size from ⟨⟨(h.alloc _).alloc _, blk_new' w _ _, ((Fr.refl w _).alloc _).alloc _⟩, blk_alloc (blk_new w _) _⟩)
 clear hx hwk hn h hk e1 hp hc
 have hcb := fun i => HJ.out.vj.be.cell i
 have hce := fun i => blk_cell HJ.out.vj.eb_ i
 have hcw := fun i => blk_cell HJ.out.wb_ i
 have hlb := HJ.out.vj.be.lt
 have hle := blk_lt HJ.out.vj.eb_
 have hlw := blk_lt HJ.out.wb_
 go_enter Try.func74, Try.ntmps74
 go_upto_region 2 with (fail)
 refine gen_world' (fun W => Wj w W B q g m wm n c b e (w.heap.size + 1) k w.heap.size) (by exact HJ.out) fun w3 Hw3 => ?_
 have HJw3 := Aside0.mk Hw3
 clear Hw3
 clear hcb hce hcw hlb hle hlw
 have hcb := fun i => HJw3.out.vj.be.cell i
 have hce := fun i => blk_cell HJw3.out.vj.eb_ i
 have hcw := fun i => blk_cell HJw3.out.wb_ i
 have hlb := HJw3.out.vj.be.lt
 have hle := blk_lt HJw3.out.vj.eb_
 have hlw := blk_lt HJw3.out.wb_
 go_quiet (fail)
 go_upto_region 4 with (fail)
 refine gen_world' (fun W => Wj w W B q g m wm n c b e (w.heap.size + 1) k w.heap.size) (by exact HJw3.out.drewN _) fun w6 Hw6 => ?_
 have HJw6 := Aside0.mk Hw6
 clear Hw6
 clear hcb hce hcw hlb hle hlw
 have hcb := fun i => HJw6.out.vj.be.cell i
 have hce := fun i => blk_cell HJw6.out.vj.eb_ i
 have hcw := fun i => blk_cell HJw6.out.wb_ i
 have hlb := HJw6.out.vj.be.lt
 have hle := blk_lt HJw6.out.vj.eb_
 have hlw := blk_lt HJw6.out.wb_
 refine start_ (n := 10) (S := (fun w' => (∀ i, w'.cell? ⟨q, i, none⟩ = (vbA g c.c0 wm)[i]?) ∧ (∀ i, w'.cell? ⟨w.heap.size + 1, i, none⟩ = (e.cells)[i]?) ∧ (∀ i, w'.cell? ⟨w.heap.size, i, none⟩ = (wkA k)[i]?))) (ds := [8]) #[ff,ff,ff,ff,ff,ff,ff,ff,ff,ff] (by kernel_rfl) rfl rfl HJw6.out.drew.cells (fun hHeld => ?_)
 refine with_tabW vpR.tab4 vpR.bits4 (fun HT_ HW_ => ?_)
 have HJ7 := Aside0.mk HJw6.out.drew
 generalize w6.drew = w7 at HJ7 hHeld ⊢
 clear hcb hce hcw hlb hle hlw
 have hlb := HJ7.out.vj.be.lt
 have hle := blk_lt HJ7.out.vj.eb_
 have hlw := blk_lt HJ7.out.wb_
 refine pure_ (i := 0) (N := (some 52)) (v := ?_) (a' := ?_) #[tt,ff,ff,ff,ff,ff,ff,ff,ff,ff] rfl rfl (any_of HT_.out (by kernel_rfl)) (fun _ _ _ h => h) (Or.inl ⟨by rfl, ?_⟩) ?_ ?_
 rotate_left
 ·intro w'
  go_simp
  with_reducible rfl
 rotate_left
 ·simp only [Act.put, sQ0, sQ1, sQ2, i64_w]
  rfl
 refine pure_ (i := 1) (N := (some 53)) (v := ?_) (a' := ?_) #[tt,tt,ff,ff,ff,ff,ff,ff,ff,ff] rfl rfl (any_of HT_.out (by kernel_rfl)) (fun _ _ _ h => h) (Or.inl ⟨by rfl, ?_⟩) ?_ ?_
 rotate_left
 ·intro w'
  go_simp
  with_reducible rfl
 rotate_left
 ·simp only [Act.put, sQ0, sQ1, sQ2, i64_w]
  rfl
 refine pure_ (i := 2) (N := (some 54)) (v := ?_) (a' := ?_) #[tt,tt,tt,ff,ff,ff,ff,ff,ff,ff] rfl rfl (any_of HT_.out (by kernel_rfl)) (fun _ _ _ h => h) (Or.inl ⟨by rfl, ?_⟩) ?_ ?_
 rotate_left
 ·intro w'
  go_simp
  with_reducible rfl
 rotate_left
 ·simp only [Act.put, sQ0, sQ1, sQ2, i64_w]
  rfl
 refine pure_ (i := 5) (N := (some 57)) (v := ?_) (a' := ?_) #[tt,tt,tt,ff,ff,tt,ff,ff,ff,ff] rfl rfl (any_of HT_.out (by kernel_rfl)) (fun _ _ _ h => h) (Or.inl ⟨by rfl, ?_⟩) ?_ ?_
 rotate_left
 ·intro w'
  go_simp
  with_reducible rfl
 rotate_left
 ·simp only [Act.put, sQ0, sQ1, sQ2, i64_w]
  rfl
 refine pure_ (i := 6) (N := (some 58)) (v := ?_) (a' := ?_) #[tt,tt,tt,ff,ff,tt,tt,ff,ff,ff] rfl rfl (any_of HT_.out (by kernel_rfl)) (fun _ _ _ h => h) (Or.inl ⟨by rfl, ?_⟩) ?_ ?_
 rotate_left
 ·intro w'
  go_simp
  with_reducible rfl
 rotate_left
 ·simp only [Act.put, sQ0, sQ1, sQ2, i64_w]
  rfl
 refine take_ (i := 3) (N := (some 55)) (v := ?_) (a' := ?_) #[tt,tt,tt,tt,ff,tt,tt,ff,ff,ff] rfl rfl (take_ofW HT_.out HW_.out (by kernel_rfl)) (fun _ _ _ h => h) (Or.inl ⟨by rfl, ?_⟩) hHeld ?_ ?_
 rotate_left
 ·rintro w' ⟨s0, s1, s2⟩
  go_simp
  with_reducible rfl
 rotate_left
 ·simp only [Act.put, sQ0, sQ1, sQ2, i64_w]
  rfl
 refine take_ (i := 4) (N := (some 56)) (v := ?_) (a' := ?_) #[tt,tt,tt,tt,tt,tt,tt,ff,ff,ff] rfl rfl (take_ofW HT_.out HW_.out (by kernel_rfl)) (fun _ _ _ h => h) (Or.inl ⟨by rfl, ?_⟩) hHeld ?_ ?_
 rotate_left
 ·rintro w' ⟨s0, s1, s2⟩
  go_simp
  with_reducible rfl
 rotate_left
 ·simp only [Act.put, sQ0, sQ1, sQ2, i64_w]
  rfl
 refine take_ (i := 7) (N := (some 59)) (v := ?_) (a' := ?_) #[tt,tt,tt,tt,tt,tt,tt,tt,ff,ff] rfl rfl (take_ofW HT_.out HW_.out (by kernel_rfl)) (fun _ _ _ h => h) (Or.inl ⟨by rfl, ?_⟩) hHeld ?_ ?_
 rotate_left
 ·rintro w' ⟨s0, s1, s2⟩
  go_simp
  with_reducible rfl
 rotate_left
 ·simp only [Act.put, sQ0, sQ1, sQ2, i64_w]
  rfl
 refine last_ (i := 8) (N := (some 60)) #[tt,tt,tt,tt,tt,tt,tt,tt,tt,ff] rfl rfl (one_of HT_.out (by kernel_rfl)) (by decide) (fun K hK => ?_)
 refine call_ (f := 38) #[pA g, .agg e.cells, .int .i64 k.e.dr] (by rfl) rfl (by go_simp <;> rfl) ?_
 refine (vdo_any e k.e.dr HX.out HN.out HJ7.out.vj.be).mono ?_
 rintro r w8 ⟨rfl, hm, hf⟩
 refine ⟨_, rfl, ?_⟩
 have HD := Aside0.mk (HJ7.out.turn hm hf)
 clear hm hf
 refine hK.out _ _ ?_
 clear hK K
 refine norm_ (a' := ?_) ?_ ?_
 rotate_left
 ·show Act.put _ (some 60) _ = _
  simp only [Act.put, sQ0, sQ1, sQ2, i64_w]
  rfl
 refine pure_ (i := 9) (N := (some 8)) (v := ?_) (a' := ?_) #[tt,tt,tt,tt,tt,tt,tt,tt,tt,tt] rfl rfl (any_of HT_.out (by kernel_rfl)) (fun _ _ _ h => h) (Or.inl ⟨by rfl, ?_⟩) ?_ ?_
 rotate_left
 ·intro w'
  go_simp
  with_reducible rfl
 rotate_left
 ·simp only [Act.put, sQ0, sQ1, sQ2, i64_w]
  rfl
 refine done_ (done_of HT_.out (by kernel_rfl)) ?_
 clear hlb hle hlw
 have hcb := fun i => HD.out.vj.be.cell i
 have hce := fun i => blk_cell HD.out.vj.eb_ i
 have hcw := fun i => blk_cell HD.out.wb_ i
 have hlb := HD.out.vj.be.lt
 have hle := blk_lt HD.out.vj.eb_
 have hlw := blk_lt HD.out.wb_
 have hfw := fun i => blk_frozen HD.out.wb_ i
 by_cases hd : (b.do_ c e k.e.dr).2 = 0
 ·have HF := Aside0.mk (show pointV c b k e = ({ (b.do_ c e k.e.dr).1 with wks := updW b.wks e.wk (some { k with pt := true, cd := e.er }) }, 0) by unfold pointV; rw [if_neg (by rw [HOK.out]; decide), if_pos hd])
  have d0 : ((b.do_ c e k.e.dr).2 == 0) = true := beq_iff_eq.2 (hd)
  have HC := Aside0.mk hd
  clear hd
  go_upto_region 6 with (fail)
  refine gen_world' (fun W => Wj w W B q g m wm (n + 1) c (b.do_ c e k.e.dr).1 e (w.heap.size + 1) k w.heap.size) (by exact HD.out) fun w9 Hw9 => ?_
  have HJw9 := Aside0.mk Hw9
  clear Hw9 hfw
  clear hcb hce hcw hlb hle hlw
  have hcb := fun i => HJw9.out.vj.be.cell i
  have hce := fun i => blk_cell HJw9.out.vj.eb_ i
  have hcw := fun i => blk_cell HJw9.out.wb_ i
  have hlb := HJw9.out.vj.be.lt
  have hle := blk_lt HJw9.out.vj.eb_
  have hlw := blk_lt HJw9.out.wb_
  refine start_ (n := 6) (S := (fun w' => (∀ i, w'.cell? ⟨w.heap.size + 1, i, none⟩ = (e.cells)[i]?) ∧ w'.cell? ⟨w.heap.size, 9, none⟩ = some (.int .i64 k.cd) ∧ (∀ i, w'.frozen? ⟨w.heap.size, i, none⟩ = false))) (ds := [5]) #[ff,ff,ff,ff,ff,ff] (by kernel_rfl) rfl rfl ⟨(HJw9.out.drew).cells.2.1, (HJw9.out.drew).cells.2.2 9, fun i => blk_frozen (HJw9.out.drew).wb_ i⟩ (fun hHeld => ?_)
  refine with_tabW vpR.tab6 vpR.bits6 (fun HT_ HW_ => ?_)
  have HJa := Aside0.mk HJw9.out.drew
  generalize w9.drew = w10 at HJa hHeld ⊢
  clear hcb hce hcw hlb hle hlw
  have HS6 := Aside0.mk (HJa.out.held6)
  have hlb := HJa.out.vj.be.lt
  have hle := blk_lt HJa.out.vj.eb_
  have hlw := blk_lt HJa.out.wb_
  refine pure_ (i := 0) (N := (some 63)) (v := ?_) (a' := ?_) #[tt,ff,ff,ff,ff,ff] rfl rfl (any_of HT_.out (by kernel_rfl)) (fun _ _ _ h => h) (Or.inl ⟨by rfl, ?_⟩) ?_ ?_
  rotate_left
  ·intro w'
   go_simp
   with_reducible rfl
  rotate_left
  ·simp only [Act.put, sQ0, sQ1, sQ2, i64_w]
   rfl
  refine pure_ (i := 2) (N := (some 65)) (v := ?_) (a' := ?_) #[tt,ff,tt,ff,ff,ff] rfl rfl (any_of HT_.out (by kernel_rfl)) (fun _ _ _ h => h) (Or.inl ⟨by rfl, ?_⟩) ?_ ?_
  rotate_left
  ·intro w'
   go_simp
   with_reducible rfl
  rotate_left
  ·simp only [Act.put, sQ0, sQ1, sQ2, i64_w]
   rfl
  refine take_ (i := 1) (N := (some 64)) (v := ?_) (a' := ?_) #[tt,tt,tt,ff,ff,ff] rfl rfl (take_ofW HT_.out HW_.out (by kernel_rfl)) (fun _ _ _ h => h) (Or.inl ⟨by rfl, ?_⟩) hHeld ?_ ?_
  rotate_left
  ·rintro w' ⟨s0, s1, s2⟩
   go_simp
   with_reducible rfl
  rotate_left
  ·simp only [Act.put, sQ0, sQ1, sQ2, i64_w]
   rfl
  refine one_ (i := 3) (N := none) #[tt,tt,tt,tt,ff,ff] rfl rfl (one_of HT_.out (by kernel_rfl)) (by decide) (fun K hK => ?_)
  have hc8 : w10.cell? ⟨w.heap.size, 8, none⟩ = some (.bool k.pt) := blk_cell HJa.out.wb_ 8
  refine skip_ (by rfl) rfl (w1 := w10.setCell ⟨w.heap.size, 8, none⟩ (.bool true)) (by have q1 := hHeld.2.2 8; go_simp) ?_
  refine hK.out _ _ HS6.out (fun hHeld => ?_)
  clear hK K
  refine pure_ (i := 4) (N := (some 66)) (v := ?_) (a' := ?_) #[tt,tt,tt,tt,tt,ff] rfl rfl (any_of HT_.out (by kernel_rfl)) (fun _ _ _ h => h) (Or.inl ⟨by rfl, ?_⟩) ?_ ?_
  rotate_left
  ·intro w'
   go_simp
   with_reducible rfl
  rotate_left
  ·simp only [Act.put, sQ0, sQ1, sQ2, i64_w]
   rfl
  refine last_ (i := 5) (N := none) #[tt,tt,tt,tt,tt,tt] rfl rfl (one_of HT_.out (by kernel_rfl)) (by decide) (fun K hK => ?_)
  refine skip_ (by rfl) rfl (w1 := (w10.setCell ⟨w.heap.size, 8, none⟩ (.bool true)).setCell ⟨w.heap.size, 9, none⟩ (.int .i64 e.er)) (by have q1 := hHeld.2.2 9; have q2 := hHeld.2.1; go_simp) ?_
  refine hK.out _ _ ?_
  clear hK K
  refine done_ (done_of HT_.out (by kernel_rfl)) ?_
  go_upto_region 7 with (fail)
  refine gen_world' (fun W => Wj w W B q g m wm (n + 1) c (b.do_ c e k.e.dr).1 e (w.heap.size + 1) { k with pt := true, cd := e.er } w.heap.size) (by exact HJa.out.note (Nat.le_refl _)) fun w11 Hw11 => ?_
  have HJw11 := Aside0.mk Hw11
  clear Hw11 hlb hle hlw
  refine still_tail_at' 7 (by kernel_rfl) (by kernel_rfl) fun w12 hw12 => ?_
  have HJb := Aside0.mk (show Wj w w12 B q g m wm (n + 1) c (b.do_ c e k.e.dr).1 e (w.heap.size + 1) { k with pt := true, cd := e.er } w.heap.size by rw [hw12]; exact HJw11.out.drew)
  clear hw12
  have hcb := fun i => HJb.out.vj.be.cell i
  have hce := fun i => blk_cell HJb.out.vj.eb_ i
  have hcw := fun i => blk_cell HJb.out.wb_ i
  have hlb := HJb.out.vj.be.lt
  have hle := blk_lt HJb.out.vj.eb_
  have hlw := blk_lt HJb.out.wb_
  simp only [List.take_succ_cons, List.take_zero, List.drop_succ_cons, List.drop_zero]
  repeat still_step
  refine wpStill_nil ?_
  obtain ⟨z, hz, hM⟩ := HJb.out.vj.be.mw
  have HM := Aside0.mk (And.intro hz hM)
  clear hz hM
  refine wpl_store Bk.int_inj rfl _ _ _ 87 rfl HM.out.2 law3 Try.underlying87 (by unfold maxLen; have := HM.out.1; have := HN.out; omega) (y := e.wk) (keyOf_int_mk Try.underlying3 HWK.out) (val := .agg (wkA { k with pt := true, cd := e.er })) rfl rfl rfl ?_
  intro w13 hm13 hg13
  have HP := Aside0.mk (And.intro hm13 hg13)
  clear hm13 hg13
  go_wp2
  go_ret
  obtain ⟨hm13, hg13⟩ := HP.out
  have hs : (wV (b.do_ c e k.e.dr).1.wks e.wk).isSome = true := by show ((b.wks e.wk).map _).isSome = true; rw [HK.out]; rfl
  rw [if_pos hs, wV_upd] at hm13
  exact VPost.of HF.out (by first | exact HC.out | rfl) (HJb.out.vj.be.put hm13 HM.out.1 (Nat.le_refl _) hg13) (HJb.out.vj.fr.trans (grown_fr hg13 g m))
 ·have HF := Aside0.mk (show pointV c b k e = b.do_ c e k.e.dr by unfold pointV; rw [if_neg (by rw [HOK.out]; decide), if_neg hd])
  have d0 : ((b.do_ c e k.e.dr).2 == 0) = false := beq_eq_false_iff_ne.2 (hd)
  clear hd
  go_wp2
  go_ret
  exact VPost.of HF.out rfl HD.out.vj.be HD.out.vj.fr
theorem vpoint_again_b {w : World} {B q g m wm n : Nat} {c : Cf} {b : Vb} {k : Wk} (e : Ev7) (hx : (Lit.int .i64 e.cn).wf = true) (hwk : (Lit.int .i64 e.wk).wf = true) (hn : n + 1 ≤ 1000000) (h : VbIs w B q g m wm n c b) (hk : b.wks e.wk = some k) (e1 : (e.er != 1) = true) (e3 : (e.er != 3) = false) (hp : k.pt = true) :
  Calls Try.prog 74 #[pA q, .agg (wkA k), .agg e.cells] w (VPost w B q g m wm n c (pointV c b k e)) := by
 have hu0 := Try.underlying89
 have hu1 := Try.underlying60
 have hu2 := Try.underlying124
 have HF := Aside0.mk (show pointV c b k e = (b, 6) by unfold pointV; rw [if_pos (show pointBad b k e = true by unfold pointBad; rw [hp]; rfl)])
 have t1 := e1
 have t2 := e3
 have p0 := hp
 have HX := Aside0.mk hx
 have HWK := Aside0.mk hwk
 have HN := Aside0.mk hn
 have HK := Aside0.mk hk
 have HJ := Aside0.mk (show Wj w ((w.alloc (.cells (wkA k) 124)).alloc (.cells e.cells 60)) B q g m wm n c b e (w.heap.size + 1) k w.heap.size from ⟨⟨(h.alloc _).alloc _, blk_new' w _ _, ((Fr.refl w _).alloc _).alloc _⟩, blk_alloc (blk_new w _) _⟩)
 clear hx hwk hn h hk e1 e3 hp
 have hcb := fun i => HJ.out.vj.be.cell i
 have hce := fun i => blk_cell HJ.out.vj.eb_ i
 have hcw := fun i => blk_cell HJ.out.wb_ i
 have hlb := HJ.out.vj.be.lt
 have hle := blk_lt HJ.out.vj.eb_
 have hlw := blk_lt HJ.out.wb_
 go_enter Try.func74, Try.ntmps74
 go_upto_region 2 with (fail)
 refine gen_world' (fun W => Wj w W B q g m wm n c b e (w.heap.size + 1) k w.heap.size) (by exact HJ.out) fun w3 Hw3 => ?_
 have HJw3 := Aside0.mk Hw3
 clear Hw3
 clear hcb hce hcw hlb hle hlw
 have hcb := fun i => HJw3.out.vj.be.cell i
 have hce := fun i => blk_cell HJw3.out.vj.eb_ i
 have hcw := fun i => blk_cell HJw3.out.wb_ i
 have hlb := HJw3.out.vj.be.lt
 have hle := blk_lt HJw3.out.vj.eb_
 have hlw := blk_lt HJw3.out.wb_
 go_quiet (fail)
 go_wp2
 go_ret
 exact VPost.of HF.out rfl ((HJw3.out.drewN _).vj.be.up (by omega)) (HJw3.out.drewN _).vj.fr
theorem vpoint_conn_b {w : World} {B q g m wm n : Nat} {c : Cf} {b : Vb} {k : Wk} (e : Ev7) (hx : (Lit.int .i64 e.cn).wf = true) (hwk : (Lit.int .i64 e.wk).wf = true) (hn : n + 1 ≤ 1000000) (h : VbIs w B q g m wm n c b) (hk : b.wks e.wk = some k) (e1 : (e.er != 1) = true) (e3 : (e.er != 3) = false) (hp : k.pt = false) (hc : (e.cn != k.e.cn) = true) :
  Calls Try.prog 74 #[pA q, .agg (wkA k), .agg e.cells] w (VPost w B q g m wm n c (pointV c b k e)) := by
 have hu0 := Try.underlying89
 have hu1 := Try.underlying60
 have hu2 := Try.underlying124
 have HF := Aside0.mk (show pointV c b k e = (b, 6) by unfold pointV; rw [if_pos (show pointBad b k e = true by unfold pointBad; rw [hp, hc]; rfl)])
 have t1 := e1
 have t2 := e3
 have p0 := hp
 have c0 := hc
 have HX := Aside0.mk hx
 have HWK := Aside0.mk hwk
 have HN := Aside0.mk hn
 have HK := Aside0.mk hk
 have HJ := Aside0.mk (show Wj w ((w.alloc (.cells (wkA k) 124)).alloc (.cells e.cells 60)) B q g m wm n c b e (w.heap.size + 1) k w.heap.size from ⟨⟨(h.alloc _).alloc _, blk_new' w _ _, ((Fr.refl w _).alloc _).alloc _⟩, blk_alloc (blk_new w _) _⟩)
 clear hx hwk hn h hk e1 e3 hp hc
 have hcb := fun i => HJ.out.vj.be.cell i
 have hce := fun i => blk_cell HJ.out.vj.eb_ i
 have hcw := fun i => blk_cell HJ.out.wb_ i
 have hlb := HJ.out.vj.be.lt
 have hle := blk_lt HJ.out.vj.eb_
 have hlw := blk_lt HJ.out.wb_
 go_enter Try.func74, Try.ntmps74
 go_upto_region 2 with (fail)
 refine gen_world' (fun W => Wj w W B q g m wm n c b e (w.heap.size + 1) k w.heap.size) (by exact HJ.out) fun w3 Hw3 => ?_
 have HJw3 := Aside0.mk Hw3
 clear Hw3
 clear hcb hce hcw hlb hle hlw
 have hcb := fun i => HJw3.out.vj.be.cell i
 have hce := fun i => blk_cell HJw3.out.vj.eb_ i
 have hcw := fun i => blk_cell HJw3.out.wb_ i
 have hlb := HJw3.out.vj.be.lt
 have hle := blk_lt HJw3.out.vj.eb_
 have hlw := blk_lt HJw3.out.wb_
 go_quiet (fail)
 go_wp2
 go_ret
 exact VPost.of HF.out rfl ((HJw3.out.drewN _).vj.be.up (by omega)) (HJw3.out.drewN _).vj.fr
theorem vpoint_do_b {w : World} {B q g m wm n : Nat} {c : Cf} {b : Vb} {k : Wk} (e : Ev7) (hx : (Lit.int .i64 e.cn).wf = true) (hwk : (Lit.int .i64 e.wk).wf = true) (hn : n + 1 ≤ 1000000) (h : VbIs w B q g m wm n c b) (hk : b.wks e.wk = some k) (e1 : (e.er != 1) = true) (e3 : (e.er != 3) = false) (hp : k.pt = false) (hc : (e.cn != k.e.cn) = false) :
  Calls Try.prog 74 #[pA q, .agg (wkA k), .agg e.cells] w (VPost w B q g m wm n c (pointV c b k e)) := by
 have hu0 := Try.underlying89
 have hu1 := Try.underlying60
 have hu2 := Try.underlying124
 have t1 := e1
 have t2 := e3
 have p0 := hp
 have c0 := hc
 have HOK := Aside0.mk (show pointBad b k e = false by unfold pointBad timedB; simp [e1, e3, hp, hc])
 have HX := Aside0.mk hx
 have HWK := Aside0.mk hwk
 have HN := Aside0.mk hn
 have HK := Aside0.mk hk
 have HJ := Aside0.mk (show Wj w ((w.alloc (.cells (wkA k) 124)).alloc (.cells e.cells 60)) B q g m wm n c b e (w.heap.size + 1) k w.heap.size from ⟨⟨(h.alloc _).alloc _, blk_new' w _ _, ((Fr.refl w _).alloc _).alloc _⟩, blk_alloc (blk_new w _) _⟩)
 clear hx hwk hn h hk e1 e3 hp hc
 have hcb := fun i => HJ.out.vj.be.cell i
 have hce := fun i => blk_cell HJ.out.vj.eb_ i
 have hcw := fun i => blk_cell HJ.out.wb_ i
 have hlb := HJ.out.vj.be.lt
 have hle := blk_lt HJ.out.vj.eb_
 have hlw := blk_lt HJ.out.wb_
 go_enter Try.func74, Try.ntmps74
 go_upto_region 2 with (fail)
 refine gen_world' (fun W => Wj w W B q g m wm n c b e (w.heap.size + 1) k w.heap.size) (by exact HJ.out) fun w3 Hw3 => ?_
 have HJw3 := Aside0.mk Hw3
 clear Hw3
 clear hcb hce hcw hlb hle hlw
 have hcb := fun i => HJw3.out.vj.be.cell i
 have hce := fun i => blk_cell HJw3.out.vj.eb_ i
 have hcw := fun i => blk_cell HJw3.out.wb_ i
 have hlb := HJw3.out.vj.be.lt
 have hle := blk_lt HJw3.out.vj.eb_
 have hlw := blk_lt HJw3.out.wb_
 go_quiet (fail)
 go_upto_region 4 with (fail)
 refine gen_world' (fun W => Wj w W B q g m wm n c b e (w.heap.size + 1) k w.heap.size) (by exact HJw3.out.drewN _) fun w6 Hw6 => ?_
 have HJw6 := Aside0.mk Hw6
 clear Hw6
 clear hcb hce hcw hlb hle hlw
 have hcb := fun i => HJw6.out.vj.be.cell i
 have hce := fun i => blk_cell HJw6.out.vj.eb_ i
 have hcw := fun i => blk_cell HJw6.out.wb_ i
 have hlb := HJw6.out.vj.be.lt
 have hle := blk_lt HJw6.out.vj.eb_
 have hlw := blk_lt HJw6.out.wb_
 refine start_ (n := 10) (S := (fun w' => (∀ i, w'.cell? ⟨q, i, none⟩ = (vbA g c.c0 wm)[i]?) ∧ (∀ i, w'.cell? ⟨w.heap.size + 1, i, none⟩ = (e.cells)[i]?) ∧ (∀ i, w'.cell? ⟨w.heap.size, i, none⟩ = (wkA k)[i]?))) (ds := [8]) #[ff,ff,ff,ff,ff,ff,ff,ff,ff,ff] (by kernel_rfl) rfl rfl HJw6.out.drew.cells (fun hHeld => ?_)
 refine with_tabW vpR.tab4 vpR.bits4 (fun HT_ HW_ => ?_)
 have HJ7 := Aside0.mk HJw6.out.drew
 generalize w6.drew = w7 at HJ7 hHeld ⊢
 clear hcb hce hcw hlb hle hlw
 have hlb := HJ7.out.vj.be.lt
 have hle := blk_lt HJ7.out.vj.eb_
 have hlw := blk_lt HJ7.out.wb_
 refine pure_ (i := 0) (N := (some 52)) (v := ?_) (a' := ?_) #[tt,ff,ff,ff,ff,ff,ff,ff,ff,ff] rfl rfl (any_of HT_.out (by kernel_rfl)) (fun _ _ _ h => h) (Or.inl ⟨by rfl, ?_⟩) ?_ ?_
 rotate_left
 ·intro w'
  go_simp
  with_reducible rfl
 rotate_left
 ·simp only [Act.put, sQ0, sQ1, sQ2, i64_w]
  rfl
 refine pure_ (i := 1) (N := (some 53)) (v := ?_) (a' := ?_) #[tt,tt,ff,ff,ff,ff,ff,ff,ff,ff] rfl rfl (any_of HT_.out (by kernel_rfl)) (fun _ _ _ h => h) (Or.inl ⟨by rfl, ?_⟩) ?_ ?_
 rotate_left
 ·intro w'
  go_simp
  with_reducible rfl
 rotate_left
 ·simp only [Act.put, sQ0, sQ1, sQ2, i64_w]
  rfl
 refine pure_ (i := 2) (N := (some 54)) (v := ?_) (a' := ?_) #[tt,tt,tt,ff,ff,ff,ff,ff,ff,ff] rfl rfl (any_of HT_.out (by kernel_rfl)) (fun _ _ _ h => h) (Or.inl ⟨by rfl, ?_⟩) ?_ ?_
 rotate_left
 ·intro w'
  go_simp
  with_reducible rfl
 rotate_left
 ·simp only [Act.put, sQ0, sQ1, sQ2, i64_w]
  rfl
 refine pure_ (i := 5) (N := (some 57)) (v := ?_) (a' := ?_) #[tt,tt,tt,ff,ff,tt,ff,ff,ff,ff] rfl rfl (any_of HT_.out (by kernel_rfl)) (fun _ _ _ h => h) (Or.inl ⟨by rfl, ?_⟩) ?_ ?_
 rotate_left
 ·intro w'
  go_simp
  with_reducible rfl
 rotate_left
 ·simp only [Act.put, sQ0, sQ1, sQ2, i64_w]
  rfl
 refine pure_ (i := 6) (N := (some 58)) (v := ?_) (a' := ?_) #[tt,tt,tt,ff,ff,tt,tt,ff,ff,ff] rfl rfl (any_of HT_.out (by kernel_rfl)) (fun _ _ _ h => h) (Or.inl ⟨by rfl, ?_⟩) ?_ ?_
 rotate_left
 ·intro w'
  go_simp
  with_reducible rfl
 rotate_left
 ·simp only [Act.put, sQ0, sQ1, sQ2, i64_w]
  rfl
 refine take_ (i := 3) (N := (some 55)) (v := ?_) (a' := ?_) #[tt,tt,tt,tt,ff,tt,tt,ff,ff,ff] rfl rfl (take_ofW HT_.out HW_.out (by kernel_rfl)) (fun _ _ _ h => h) (Or.inl ⟨by rfl, ?_⟩) hHeld ?_ ?_
 rotate_left
 ·rintro w' ⟨s0, s1, s2⟩
  go_simp
  with_reducible rfl
 rotate_left
 ·simp only [Act.put, sQ0, sQ1, sQ2, i64_w]
  rfl
 refine take_ (i := 4) (N := (some 56)) (v := ?_) (a' := ?_) #[tt,tt,tt,tt,tt,tt,tt,ff,ff,ff] rfl rfl (take_ofW HT_.out HW_.out (by kernel_rfl)) (fun _ _ _ h => h) (Or.inl ⟨by rfl, ?_⟩) hHeld ?_ ?_
 rotate_left
 ·rintro w' ⟨s0, s1, s2⟩
  go_simp
  with_reducible rfl
 rotate_left
 ·simp only [Act.put, sQ0, sQ1, sQ2, i64_w]
  rfl
 refine take_ (i := 7) (N := (some 59)) (v := ?_) (a' := ?_) #[tt,tt,tt,tt,tt,tt,tt,tt,ff,ff] rfl rfl (take_ofW HT_.out HW_.out (by kernel_rfl)) (fun _ _ _ h => h) (Or.inl ⟨by rfl, ?_⟩) hHeld ?_ ?_
 rotate_left
 ·rintro w' ⟨s0, s1, s2⟩
  go_simp
  with_reducible rfl
 rotate_left
 ·simp only [Act.put, sQ0, sQ1, sQ2, i64_w]
  rfl
 refine last_ (i := 8) (N := (some 60)) #[tt,tt,tt,tt,tt,tt,tt,tt,tt,ff] rfl rfl (one_of HT_.out (by kernel_rfl)) (by decide) (fun K hK => ?_)
 refine call_ (f := 38) #[pA g, .agg e.cells, .int .i64 k.e.dr] (by rfl) rfl (by go_simp <;> rfl) ?_
 refine (vdo_any e k.e.dr HX.out HN.out HJ7.out.vj.be).mono ?_
 rintro r w8 ⟨rfl, hm, hf⟩
 refine ⟨_, rfl, ?_⟩
 have HD := Aside0.mk (HJ7.out.turn hm hf)
 clear hm hf
 refine hK.out _ _ ?_
 clear hK K
 refine norm_ (a' := ?_) ?_ ?_
 rotate_left
 ·show Act.put _ (some 60) _ = _
  simp only [Act.put, sQ0, sQ1, sQ2, i64_w]
  rfl
 refine pure_ (i := 9) (N := (some 8)) (v := ?_) (a' := ?_) #[tt,tt,tt,tt,tt,tt,tt,tt,tt,tt] rfl rfl (any_of HT_.out (by kernel_rfl)) (fun _ _ _ h => h) (Or.inl ⟨by rfl, ?_⟩) ?_ ?_
 rotate_left
 ·intro w'
  go_simp
  with_reducible rfl
 rotate_left
 ·simp only [Act.put, sQ0, sQ1, sQ2, i64_w]
  rfl
 refine done_ (done_of HT_.out (by kernel_rfl)) ?_
 clear hlb hle hlw
 have hcb := fun i => HD.out.vj.be.cell i
 have hce := fun i => blk_cell HD.out.vj.eb_ i
 have hcw := fun i => blk_cell HD.out.wb_ i
 have hlb := HD.out.vj.be.lt
 have hle := blk_lt HD.out.vj.eb_
 have hlw := blk_lt HD.out.wb_
 have hfw := fun i => blk_frozen HD.out.wb_ i
 by_cases hd : (b.do_ c e k.e.dr).2 = 0
 ·have HF := Aside0.mk (show pointV c b k e = ({ (b.do_ c e k.e.dr).1 with wks := updW b.wks e.wk (some { k with pt := true, cd := e.er }) }, 0) by unfold pointV; rw [if_neg (by rw [HOK.out]; decide), if_pos hd])
  have d0 : ((b.do_ c e k.e.dr).2 == 0) = true := beq_iff_eq.2 (hd)
  have HC := Aside0.mk hd
  clear hd
  go_upto_region 6 with (fail)
  refine gen_world' (fun W => Wj w W B q g m wm (n + 1) c (b.do_ c e k.e.dr).1 e (w.heap.size + 1) k w.heap.size) (by exact HD.out) fun w9 Hw9 => ?_
  have HJw9 := Aside0.mk Hw9
  clear Hw9 hfw
  clear hcb hce hcw hlb hle hlw
  have hcb := fun i => HJw9.out.vj.be.cell i
  have hce := fun i => blk_cell HJw9.out.vj.eb_ i
  have hcw := fun i => blk_cell HJw9.out.wb_ i
  have hlb := HJw9.out.vj.be.lt
  have hle := blk_lt HJw9.out.vj.eb_
  have hlw := blk_lt HJw9.out.wb_
  refine start_ (n := 6) (S := (fun w' => (∀ i, w'.cell? ⟨w.heap.size + 1, i, none⟩ = (e.cells)[i]?) ∧ w'.cell? ⟨w.heap.size, 9, none⟩ = some (.int .i64 k.cd) ∧ (∀ i, w'.frozen? ⟨w.heap.size, i, none⟩ = false))) (ds := [5]) #[ff,ff,ff,ff,ff,ff] (by kernel_rfl) rfl rfl ⟨(HJw9.out.drew).cells.2.1, (HJw9.out.drew).cells.2.2 9, fun i => blk_frozen (HJw9.out.drew).wb_ i⟩ (fun hHeld => ?_)
  refine with_tabW vpR.tab6 vpR.bits6 (fun HT_ HW_ => ?_)
  have HJa := Aside0.mk HJw9.out.drew
  generalize w9.drew = w10 at HJa hHeld ⊢
  clear hcb hce hcw hlb hle hlw
  have HS6 := Aside0.mk (HJa.out.held6)
  have hlb := HJa.out.vj.be.lt
  have hle := blk_lt HJa.out.vj.eb_
  have hlw := blk_lt HJa.out.wb_
  refine pure_ (i := 0) (N := (some 63)) (v := ?_) (a' := ?_) #[tt,ff,ff,ff,ff,ff] rfl rfl (any_of HT_.out (by kernel_rfl)) (fun _ _ _ h => h) (Or.inl ⟨by rfl, ?_⟩) ?_ ?_
  rotate_left
  ·intro w'
   go_simp
   with_reducible rfl
  rotate_left
  ·simp only [Act.put, sQ0, sQ1, sQ2, i64_w]
   rfl
  refine pure_ (i := 2) (N := (some 65)) (v := ?_) (a' := ?_) #[tt,ff,tt,ff,ff,ff] rfl rfl (any_of HT_.out (by kernel_rfl)) (fun _ _ _ h => h) (Or.inl ⟨by rfl, ?_⟩) ?_ ?_
  rotate_left
  ·intro w'
   go_simp
   with_reducible rfl
  rotate_left
  ·simp only [Act.put, sQ0, sQ1, sQ2, i64_w]
   rfl
  refine take_ (i := 1) (N := (some 64)) (v := ?_) (a' := ?_) #[tt,tt,tt,ff,ff,ff] rfl rfl (take_ofW HT_.out HW_.out (by kernel_rfl)) (fun _ _ _ h => h) (Or.inl ⟨by rfl, ?_⟩) hHeld ?_ ?_
  rotate_left
  ·rintro w' ⟨s0, s1, s2⟩
   go_simp
   with_reducible rfl
  rotate_left
  ·simp only [Act.put, sQ0, sQ1, sQ2, i64_w]
   rfl
  refine one_ (i := 3) (N := none) #[tt,tt,tt,tt,ff,ff] rfl rfl (one_of HT_.out (by kernel_rfl)) (by decide) (fun K hK => ?_)
  have hc8 : w10.cell? ⟨w.heap.size, 8, none⟩ = some (.bool k.pt) := blk_cell HJa.out.wb_ 8
  refine skip_ (by rfl) rfl (w1 := w10.setCell ⟨w.heap.size, 8, none⟩ (.bool true)) (by have q1 := hHeld.2.2 8; go_simp) ?_
  refine hK.out _ _ HS6.out (fun hHeld => ?_)
  clear hK K
  refine pure_ (i := 4) (N := (some 66)) (v := ?_) (a' := ?_) #[tt,tt,tt,tt,tt,ff] rfl rfl (any_of HT_.out (by kernel_rfl)) (fun _ _ _ h => h) (Or.inl ⟨by rfl, ?_⟩) ?_ ?_
  rotate_left
  ·intro w'
   go_simp
   with_reducible rfl
  rotate_left
  ·simp only [Act.put, sQ0, sQ1, sQ2, i64_w]
   rfl
  refine last_ (i := 5) (N := none) #[tt,tt,tt,tt,tt,tt] rfl rfl (one_of HT_.out (by kernel_rfl)) (by decide) (fun K hK => ?_)
  refine skip_ (by rfl) rfl (w1 := (w10.setCell ⟨w.heap.size, 8, none⟩ (.bool true)).setCell ⟨w.heap.size, 9, none⟩ (.int .i64 e.er)) (by have q1 := hHeld.2.2 9; have q2 := hHeld.2.1; go_simp) ?_
  refine hK.out _ _ ?_
  clear hK K
  refine done_ (done_of HT_.out (by kernel_rfl)) ?_
  go_upto_region 7 with (fail)
  refine gen_world' (fun W => Wj w W B q g m wm (n + 1) c (b.do_ c e k.e.dr).1 e (w.heap.size + 1) { k with pt := true, cd := e.er } w.heap.size) (by exact HJa.out.note (Nat.le_refl _)) fun w11 Hw11 => ?_
  have HJw11 := Aside0.mk Hw11
  clear Hw11 hlb hle hlw
  refine still_tail_at' 7 (by kernel_rfl) (by kernel_rfl) fun w12 hw12 => ?_
  have HJb := Aside0.mk (show Wj w w12 B q g m wm (n + 1) c (b.do_ c e k.e.dr).1 e (w.heap.size + 1) { k with pt := true, cd := e.er } w.heap.size by rw [hw12]; exact HJw11.out.drew)
  clear hw12
  have hcb := fun i => HJb.out.vj.be.cell i
  have hce := fun i => blk_cell HJb.out.vj.eb_ i
  have hcw := fun i => blk_cell HJb.out.wb_ i
  have hlb := HJb.out.vj.be.lt
  have hle := blk_lt HJb.out.vj.eb_
  have hlw := blk_lt HJb.out.wb_
  simp only [List.take_succ_cons, List.take_zero, List.drop_succ_cons, List.drop_zero]
  repeat still_step
  refine wpStill_nil ?_
  obtain ⟨z, hz, hM⟩ := HJb.out.vj.be.mw
  have HM := Aside0.mk (And.intro hz hM)
  clear hz hM
  refine wpl_store Bk.int_inj rfl _ _ _ 87 rfl HM.out.2 law3 Try.underlying87 (by unfold maxLen; have := HM.out.1; have := HN.out; omega) (y := e.wk) (keyOf_int_mk Try.underlying3 HWK.out) (val := .agg (wkA { k with pt := true, cd := e.er })) rfl rfl rfl ?_
  intro w13 hm13 hg13
  have HP := Aside0.mk (And.intro hm13 hg13)
  clear hm13 hg13
  go_wp2
  go_ret
  obtain ⟨hm13, hg13⟩ := HP.out
  have hs : (wV (b.do_ c e k.e.dr).1.wks e.wk).isSome = true := by show ((b.wks e.wk).map _).isSome = true; rw [HK.out]; rfl
  rw [if_pos hs, wV_upd] at hm13
  exact VPost.of HF.out (by first | exact HC.out | rfl) (HJb.out.vj.be.put hm13 HM.out.1 (Nat.le_refl _) hg13) (HJb.out.vj.fr.trans (grown_fr hg13 g m))
 ·have HF := Aside0.mk (show pointV c b k e = b.do_ c e k.e.dr by unfold pointV; rw [if_neg (by rw [HOK.out]; decide), if_neg hd])
  have d0 : ((b.do_ c e k.e.dr).2 == 0) = false := beq_eq_false_iff_ne.2 (hd)
  clear hd
  go_wp2
  go_ret
  exact VPost.of HF.out rfl HD.out.vj.be HD.out.vj.fr
theorem vpoint_again_c {w : World} {B q g m wm n : Nat} {c : Cf} {b : Vb} {k : Wk} (e : Ev7) (hx : (Lit.int .i64 e.cn).wf = true) (hwk : (Lit.int .i64 e.wk).wf = true) (hn : n + 1 ≤ 1000000) (h : VbIs w B q g m wm n c b) (hk : b.wks e.wk = some k) (e1 : (e.er != 1) = true) (e3 : (e.er != 3) = true) (e6 : (e.er != 6) = false) (hp : k.pt = true) :
  Calls Try.prog 74 #[pA q, .agg (wkA k), .agg e.cells] w (VPost w B q g m wm n c (pointV c b k e)) := by
 have hu0 := Try.underlying89
 have hu1 := Try.underlying60
 have hu2 := Try.underlying124
 have HF := Aside0.mk (show pointV c b k e = (b, 6) by unfold pointV; rw [if_pos (show pointBad b k e = true by unfold pointBad; rw [hp]; rfl)])
 have t1 := e1
 have t2 := e3
 have t3 := e6
 have p0 := hp
 have HX := Aside0.mk hx
 have HWK := Aside0.mk hwk
 have HN := Aside0.mk hn
 have HK := Aside0.mk hk
 have HJ := Aside0.mk (show Wj w ((w.alloc (.cells (wkA k) 124)).alloc (.cells e.cells 60)) B q g m wm n c b e (w.heap.size + 1) k w.heap.size from ⟨⟨(h.alloc _).alloc _, blk_new' w _ _, ((Fr.refl w _).alloc _).alloc _⟩, blk_alloc (blk_new w _) _⟩)
 clear hx hwk hn h hk e1 e3 e6 hp
 have hcb := fun i => HJ.out.vj.be.cell i
 have hce := fun i => blk_cell HJ.out.vj.eb_ i
 have hcw := fun i => blk_cell HJ.out.wb_ i
 have hlb := HJ.out.vj.be.lt
 have hle := blk_lt HJ.out.vj.eb_
 have hlw := blk_lt HJ.out.wb_
 go_enter Try.func74, Try.ntmps74
 go_upto_region 2 with (fail)
 refine gen_world' (fun W => Wj w W B q g m wm n c b e (w.heap.size + 1) k w.heap.size) (by exact HJ.out) fun w3 Hw3 => ?_
 have HJw3 := Aside0.mk Hw3
 clear Hw3
 clear hcb hce hcw hlb hle hlw
 have hcb := fun i => HJw3.out.vj.be.cell i
 have hce := fun i => blk_cell HJw3.out.vj.eb_ i
 have hcw := fun i => blk_cell HJw3.out.wb_ i
 have hlb := HJw3.out.vj.be.lt
 have hle := blk_lt HJw3.out.vj.eb_
 have hlw := blk_lt HJw3.out.wb_
 go_quiet (fail)
 go_wp2
 go_ret
 exact VPost.of HF.out rfl ((HJw3.out.drewN _).vj.be.up (by omega)) (HJw3.out.drewN _).vj.fr
theorem vpoint_conn_c {w : World} {B q g m wm n : Nat} {c : Cf} {b : Vb} {k : Wk} (e : Ev7) (hx : (Lit.int .i64 e.cn).wf = true) (hwk : (Lit.int .i64 e.wk).wf = true) (hn : n + 1 ≤ 1000000) (h : VbIs w B q g m wm n c b) (hk : b.wks e.wk = some k) (e1 : (e.er != 1) = true) (e3 : (e.er != 3) = true) (e6 : (e.er != 6) = false) (hp : k.pt = false) (hc : (e.cn != k.e.cn) = true) :
  Calls Try.prog 74 #[pA q, .agg (wkA k), .agg e.cells] w (VPost w B q g m wm n c (pointV c b k e)) := by
 have hu0 := Try.underlying89
 have hu1 := Try.underlying60
 have hu2 := Try.underlying124
 have HF := Aside0.mk (show pointV c b k e = (b, 6) by unfold pointV; rw [if_pos (show pointBad b k e = true by unfold pointBad; rw [hp, hc]; rfl)])
 have t1 := e1
 have t2 := e3
 have t3 := e6
 have p0 := hp
 have c0 := hc
 have HX := Aside0.mk hx
 have HWK := Aside0.mk hwk
 have HN := Aside0.mk hn
 have HK := Aside0.mk hk
 have HJ := Aside0.mk (show Wj w ((w.alloc (.cells (wkA k) 124)).alloc (.cells e.cells 60)) B q g m wm n c b e (w.heap.size + 1) k w.heap.size from ⟨⟨(h.alloc _).alloc _, blk_new' w _ _, ((Fr.refl w _).alloc _).alloc _⟩, blk_alloc (blk_new w _) _⟩)
 clear hx hwk hn h hk e1 e3 e6 hp hc
 have hcb := fun i => HJ.out.vj.be.cell i
 have hce := fun i => blk_cell HJ.out.vj.eb_ i
 have hcw := fun i => blk_cell HJ.out.wb_ i
 have hlb := HJ.out.vj.be.lt
 have hle := blk_lt HJ.out.vj.eb_
 have hlw := blk_lt HJ.out.wb_
 go_enter Try.func74, Try.ntmps74
 go_upto_region 2 with (fail)
 refine gen_world' (fun W => Wj w W B q g m wm n c b e (w.heap.size + 1) k w.heap.size) (by exact HJ.out) fun w3 Hw3 => ?_
 have HJw3 := Aside0.mk Hw3
 clear Hw3
 clear hcb hce hcw hlb hle hlw
 have hcb := fun i => HJw3.out.vj.be.cell i
 have hce := fun i => blk_cell HJw3.out.vj.eb_ i
 have hcw := fun i => blk_cell HJw3.out.wb_ i
 have hlb := HJw3.out.vj.be.lt
 have hle := blk_lt HJw3.out.vj.eb_
 have hlw := blk_lt HJw3.out.wb_
 go_quiet (fail)
 go_wp2
 go_ret
 exact VPost.of HF.out rfl ((HJw3.out.drewN _).vj.be.up (by omega)) (HJw3.out.drewN _).vj.fr
theorem vpoint_do_c {w : World} {B q g m wm n : Nat} {c : Cf} {b : Vb} {k : Wk} (e : Ev7) (hx : (Lit.int .i64 e.cn).wf = true) (hwk : (Lit.int .i64 e.wk).wf = true) (hn : n + 1 ≤ 1000000) (h : VbIs w B q g m wm n c b) (hk : b.wks e.wk = some k) (e1 : (e.er != 1) = true) (e3 : (e.er != 3) = true) (e6 : (e.er != 6) = false) (hp : k.pt = false) (hc : (e.cn != k.e.cn) = false) :
  Calls Try.prog 74 #[pA q, .agg (wkA k), .agg e.cells] w (VPost w B q g m wm n c (pointV c b k e)) := by
 have hu0 := Try.underlying89
 have hu1 := Try.underlying60
 have hu2 := Try.underlying124
 have t1 := e1
 have t2 := e3
 have t3 := e6
 have p0 := hp
 have c0 := hc
 have HOK := Aside0.mk (show pointBad b k e = false by unfold pointBad timedB; simp [e1, e3, e6, hp, hc])
 have HX := Aside0.mk hx
 have HWK := Aside0.mk hwk
 have HN := Aside0.mk hn
 have HK := Aside0.mk hk
 have HJ := Aside0.mk (show Wj w ((w.alloc (.cells (wkA k) 124)).alloc (.cells e.cells 60)) B q g m wm n c b e (w.heap.size + 1) k w.heap.size from ⟨⟨(h.alloc _).alloc _, blk_new' w _ _, ((Fr.refl w _).alloc _).alloc _⟩, blk_alloc (blk_new w _) _⟩)
 clear hx hwk hn h hk e1 e3 e6 hp hc
 have hcb := fun i => HJ.out.vj.be.cell i
 have hce := fun i => blk_cell HJ.out.vj.eb_ i
 have hcw := fun i => blk_cell HJ.out.wb_ i
 have hlb := HJ.out.vj.be.lt
 have hle := blk_lt HJ.out.vj.eb_
 have hlw := blk_lt HJ.out.wb_
 go_enter Try.func74, Try.ntmps74
 go_upto_region 2 with (fail)
 refine gen_world' (fun W => Wj w W B q g m wm n c b e (w.heap.size + 1) k w.heap.size) (by exact HJ.out) fun w3 Hw3 => ?_
 have HJw3 := Aside0.mk Hw3
 clear Hw3
 clear hcb hce hcw hlb hle hlw
 have hcb := fun i => HJw3.out.vj.be.cell i
 have hce := fun i => blk_cell HJw3.out.vj.eb_ i
 have hcw := fun i => blk_cell HJw3.out.wb_ i
 have hlb := HJw3.out.vj.be.lt
 have hle := blk_lt HJw3.out.vj.eb_
 have hlw := blk_lt HJw3.out.wb_
 go_quiet (fail)
 go_upto_region 4 with (fail)
 refine gen_world' (fun W => Wj w W B q g m wm n c b e (w.heap.size + 1) k w.heap.size) (by exact HJw3.out.drewN _) fun w6 Hw6 => ?_
 have HJw6 := Aside0.mk Hw6
 clear Hw6
 clear hcb hce hcw hlb hle hlw
 have hcb := fun i => HJw6.out.vj.be.cell i
 have hce := fun i => blk_cell HJw6.out.vj.eb_ i
 have hcw := fun i => blk_cell HJw6.out.wb_ i
 have hlb := HJw6.out.vj.be.lt
 have hle := blk_lt HJw6.out.vj.eb_
 have hlw := blk_lt HJw6.out.wb_
 refine start_ (n := 10) (S := (fun w' => (∀ i, w'.cell? ⟨q, i, none⟩ = (vbA g c.c0 wm)[i]?) ∧ (∀ i, w'.cell? ⟨w.heap.size + 1, i, none⟩ = (e.cells)[i]?) ∧ (∀ i, w'.cell? ⟨w.heap.size, i, none⟩ = (wkA k)[i]?))) (ds := [8]) #[ff,ff,ff,ff,ff,ff,ff,ff,ff,ff] (by kernel_rfl) rfl rfl HJw6.out.drew.cells (fun hHeld => ?_)
 refine with_tabW vpR.tab4 vpR.bits4 (fun HT_ HW_ => ?_)
 have HJ7 := Aside0.mk HJw6.out.drew
 generalize w6.drew = w7 at HJ7 hHeld ⊢
 clear hcb hce hcw hlb hle hlw
 have hlb := HJ7.out.vj.be.lt
 have hle := blk_lt HJ7.out.vj.eb_
 have hlw := blk_lt HJ7.out.wb_
 refine pure_ (i := 0) (N := (some 52)) (v := ?_) (a' := ?_) #[tt,ff,ff,ff,ff,ff,ff,ff,ff,ff] rfl rfl (any_of HT_.out (by kernel_rfl)) (fun _ _ _ h => h) (Or.inl ⟨by rfl, ?_⟩) ?_ ?_
 rotate_left
 ·intro w'
  go_simp
  with_reducible rfl
 rotate_left
 ·simp only [Act.put, sQ0, sQ1, sQ2, i64_w]
  rfl
 refine pure_ (i := 1) (N := (some 53)) (v := ?_) (a' := ?_) #[tt,tt,ff,ff,ff,ff,ff,ff,ff,ff] rfl rfl (any_of HT_.out (by kernel_rfl)) (fun _ _ _ h => h) (Or.inl ⟨by rfl, ?_⟩) ?_ ?_
 rotate_left
 ·intro w'
  go_simp
  with_reducible rfl
 rotate_left
 ·simp only [Act.put, sQ0, sQ1, sQ2, i64_w]
  rfl
 refine pure_ (i := 2) (N := (some 54)) (v := ?_) (a' := ?_) #[tt,tt,tt,ff,ff,ff,ff,ff,ff,ff] rfl rfl (any_of HT_.out (by kernel_rfl)) (fun _ _ _ h => h) (Or.inl ⟨by rfl, ?_⟩) ?_ ?_
 rotate_left
 ·intro w'
  go_simp
  with_reducible rfl
 rotate_left
 ·simp only [Act.put, sQ0, sQ1, sQ2, i64_w]
  rfl
 refine pure_ (i := 5) (N := (some 57)) (v := ?_) (a' := ?_) #[tt,tt,tt,ff,ff,tt,ff,ff,ff,ff] rfl rfl (any_of HT_.out (by kernel_rfl)) (fun _ _ _ h => h) (Or.inl ⟨by rfl, ?_⟩) ?_ ?_
 rotate_left
 ·intro w'
  go_simp
  with_reducible rfl
 rotate_left
 ·simp only [Act.put, sQ0, sQ1, sQ2, i64_w]
  rfl
 refine pure_ (i := 6) (N := (some 58)) (v := ?_) (a' := ?_) #[tt,tt,tt,ff,ff,tt,tt,ff,ff,ff] rfl rfl (any_of HT_.out (by kernel_rfl)) (fun _ _ _ h => h) (Or.inl ⟨by rfl, ?_⟩) ?_ ?_
 rotate_left
 ·intro w'
  go_simp
  with_reducible rfl
 rotate_left
 ·simp only [Act.put, sQ0, sQ1, sQ2, i64_w]
  rfl
 refine take_ (i := 3) (N := (some 55)) (v := ?_) (a' := ?_) #[tt,tt,tt,tt,ff,tt,tt,ff,ff,ff] rfl rfl (take_ofW HT_.out HW_.out (by kernel_rfl)) (fun _ _ _ h => h) (Or.inl ⟨by rfl, ?_⟩) hHeld ?_ ?_
 rotate_left
 ·rintro w' ⟨s0, s1, s2⟩
  go_simp
  with_reducible rfl
 rotate_left
 ·simp only [Act.put, sQ0, sQ1, sQ2, i64_w]
  rfl
 refine take_ (i := 4) (N := (some 56)) (v := ?_) (a' := ?_) #[tt,tt,tt,tt,tt,tt,tt,ff,ff,ff] rfl rfl (take_ofW HT_.out HW_.out (by kernel_rfl)) (fun _ _ _ h => h) (Or.inl ⟨by rfl, ?_⟩) hHeld ?_ ?_
 rotate_left
 ·rintro w' ⟨s0, s1, s2⟩
  go_simp
  with_reducible rfl
 rotate_left
 ·simp only [Act.put, sQ0, sQ1, sQ2, i64_w]
  rfl
 refine take_ (i := 7) (N := (some 59)) (v := ?_) (a' := ?_) #[tt,tt,tt,tt,tt,tt,tt,tt,ff,ff] rfl rfl (take_ofW HT_.out HW_.out (by kernel_rfl)) (fun _ _ _ h => h) (Or.inl ⟨by rfl, ?_⟩) hHeld ?_ ?_
 rotate_left
 ·rintro w' ⟨s0, s1, s2⟩
  go_simp
  with_reducible rfl
 rotate_left
 ·simp only [Act.put, sQ0, sQ1, sQ2, i64_w]
  rfl
 refine last_ (i := 8) (N := (some 60)) #[tt,tt,tt,tt,tt,tt,tt,tt,tt,ff] rfl rfl (one_of HT_.out (by kernel_rfl)) (by decide) (fun K hK => ?_)
 refine call_ (f := 38) #[pA g, .agg e.cells, .int .i64 k.e.dr] (by rfl) rfl (by go_simp <;> rfl) ?_
 refine (vdo_any e k.e.dr HX.out HN.out HJ7.out.vj.be).mono ?_
 rintro r w8 ⟨rfl, hm, hf⟩
 refine ⟨_, rfl, ?_⟩
 have HD := Aside0.mk (HJ7.out.turn hm hf)
 clear hm hf
 refine hK.out _ _ ?_
 clear hK K
 refine norm_ (a' := ?_) ?_ ?_
 rotate_left
 ·show Act.put _ (some 60) _ = _
  simp only [Act.put, sQ0, sQ1, sQ2, i64_w]
  rfl
 refine pure_ (i := 9) (N := (some 8)) (v := ?_) (a' := ?_) #[tt,tt,tt,tt,tt,tt,tt,tt,tt,tt] rfl rfl (any_of HT_.out (by kernel_rfl)) (fun _ _ _ h => h) (Or.inl ⟨by rfl, ?_⟩) ?_ ?_
 rotate_left
 ·intro w'
  go_simp
  with_reducible rfl
 rotate_left
 ·simp only [Act.put, sQ0, sQ1, sQ2, i64_w]
  rfl
 refine done_ (done_of HT_.out (by kernel_rfl)) ?_
 clear hlb hle hlw
 have hcb := fun i => HD.out.vj.be.cell i
 have hce := fun i => blk_cell HD.out.vj.eb_ i
 have hcw := fun i => blk_cell HD.out.wb_ i
 have hlb := HD.out.vj.be.lt
 have hle := blk_lt HD.out.vj.eb_
 have hlw := blk_lt HD.out.wb_
 have hfw := fun i => blk_frozen HD.out.wb_ i
 by_cases hd : (b.do_ c e k.e.dr).2 = 0
 ·have HF := Aside0.mk (show pointV c b k e = ({ (b.do_ c e k.e.dr).1 with wks := updW b.wks e.wk (some { k with pt := true, cd := e.er }) }, 0) by unfold pointV; rw [if_neg (by rw [HOK.out]; decide), if_pos hd])
  have d0 : ((b.do_ c e k.e.dr).2 == 0) = true := beq_iff_eq.2 (hd)
  have HC := Aside0.mk hd
  clear hd
  go_upto_region 6 with (fail)
  refine gen_world' (fun W => Wj w W B q g m wm (n + 1) c (b.do_ c e k.e.dr).1 e (w.heap.size + 1) k w.heap.size) (by exact HD.out) fun w9 Hw9 => ?_
  have HJw9 := Aside0.mk Hw9
  clear Hw9 hfw
  clear hcb hce hcw hlb hle hlw
  have hcb := fun i => HJw9.out.vj.be.cell i
  have hce := fun i => blk_cell HJw9.out.vj.eb_ i
  have hcw := fun i => blk_cell HJw9.out.wb_ i
  have hlb := HJw9.out.vj.be.lt
  have hle := blk_lt HJw9.out.vj.eb_
  have hlw := blk_lt HJw9.out.wb_
  refine start_ (n := 6) (S := (fun w' => (∀ i, w'.cell? ⟨w.heap.size + 1, i, none⟩ = (e.cells)[i]?) ∧ w'.cell? ⟨w.heap.size, 9, none⟩ = some (.int .i64 k.cd) ∧ (∀ i, w'.frozen? ⟨w.heap.size, i, none⟩ = false))) (ds := [5]) #[ff,ff,ff,ff,ff,ff] (by kernel_rfl) rfl rfl ⟨(HJw9.out.drew).cells.2.1, (HJw9.out.drew).cells.2.2 9, fun i => blk_frozen (HJw9.out.drew).wb_ i⟩ (fun hHeld => ?_)
  refine with_tabW vpR.tab6 vpR.bits6 (fun HT_ HW_ => ?_)
  have HJa := Aside0.mk HJw9.out.drew
  generalize w9.drew = w10 at HJa hHeld ⊢
  clear hcb hce hcw hlb hle hlw
  have HS6 := Aside0.mk (HJa.out.held6)
  have hlb := HJa.out.vj.be.lt
  have hle := blk_lt HJa.out.vj.eb_
  have hlw := blk_lt HJa.out.wb_
  refine pure_ (i := 0) (N := (some 63)) (v := ?_) (a' := ?_) #[tt,ff,ff,ff,ff,ff] rfl rfl (any_of HT_.out (by kernel_rfl)) (fun _ _ _ h => h) (Or.inl ⟨by rfl, ?_⟩) ?_ ?_
  rotate_left
  ·intro w'
   go_simp
   with_reducible rfl
  rotate_left
  ·simp only [Act.put, sQ0, sQ1, sQ2, i64_w]
   rfl
  refine pure_ (i := 2) (N := (some 65)) (v := ?_) (a' := ?_) #[tt,ff,tt,ff,ff,ff] rfl rfl (any_of HT_.out (by kernel_rfl)) (fun _ _ _ h => h) (Or.inl ⟨by rfl, ?_⟩) ?_ ?_
  rotate_left
  ·intro w'
   go_simp
   with_reducible rfl
  rotate_left
  ·simp only [Act.put, sQ0, sQ1, sQ2, i64_w]
   rfl
  refine take_ (i := 1) (N := (some 64)) (v := ?_) (a' := ?_) #[tt,tt,tt,ff,ff,ff] rfl rfl (take_ofW HT_.out HW_.out (by kernel_rfl)) (fun _ _ _ h => h) (Or.inl ⟨by rfl, ?_⟩) hHeld ?_ ?_
  rotate_left
  ·rintro w' ⟨s0, s1, s2⟩
   go_simp
   with_reducible rfl
  rotate_left
  ·simp only [Act.put, sQ0, sQ1, sQ2, i64_w]
   rfl
  refine one_ (i := 3) (N := none) #[tt,tt,tt,tt,ff,ff] rfl rfl (one_of HT_.out (by kernel_rfl)) (by decide) (fun K hK => ?_)
  have hc8 : w10.cell? ⟨w.heap.size, 8, none⟩ = some (.bool k.pt) := blk_cell HJa.out.wb_ 8
  refine skip_ (by rfl) rfl (w1 := w10.setCell ⟨w.heap.size, 8, none⟩ (.bool true)) (by have q1 := hHeld.2.2 8; go_simp) ?_
  refine hK.out _ _ HS6.out (fun hHeld => ?_)
  clear hK K
  refine pure_ (i := 4) (N := (some 66)) (v := ?_) (a' := ?_) #[tt,tt,tt,tt,tt,ff] rfl rfl (any_of HT_.out (by kernel_rfl)) (fun _ _ _ h => h) (Or.inl ⟨by rfl, ?_⟩) ?_ ?_
  rotate_left
  ·intro w'
   go_simp
   with_reducible rfl
  rotate_left
  ·simp only [Act.put, sQ0, sQ1, sQ2, i64_w]
   rfl
  refine last_ (i := 5) (N := none) #[tt,tt,tt,tt,tt,tt] rfl rfl (one_of HT_.out (by kernel_rfl)) (by decide) (fun K hK => ?_)
  refine skip_ (by rfl) rfl (w1 := (w10.setCell ⟨w.heap.size, 8, none⟩ (.bool true)).setCell ⟨w.heap.size, 9, none⟩ (.int .i64 e.er)) (by have q1 := hHeld.2.2 9; have q2 := hHeld.2.1; go_simp) ?_
  refine hK.out _ _ ?_
  clear hK K
  refine done_ (done_of HT_.out (by kernel_rfl)) ?_
  go_upto_region 7 with (fail)
  refine gen_world' (fun W => Wj w W B q g m wm (n + 1) c (b.do_ c e k.e.dr).1 e (w.heap.size + 1) { k with pt := true, cd := e.er } w.heap.size) (by exact HJa.out.note (Nat.le_refl _)) fun w11 Hw11 => ?_
  have HJw11 := Aside0.mk Hw11
  clear Hw11 hlb hle hlw
  refine still_tail_at' 7 (by kernel_rfl) (by kernel_rfl) fun w12 hw12 => ?_
  have HJb := Aside0.mk (show Wj w w12 B q g m wm (n + 1) c (b.do_ c e k.e.dr).1 e (w.heap.size + 1) { k with pt := true, cd := e.er } w.heap.size by rw [hw12]; exact HJw11.out.drew)
  clear hw12
  have hcb := fun i => HJb.out.vj.be.cell i
  have hce := fun i => blk_cell HJb.out.vj.eb_ i
  have hcw := fun i => blk_cell HJb.out.wb_ i
  have hlb := HJb.out.vj.be.lt
  have hle := blk_lt HJb.out.vj.eb_
  have hlw := blk_lt HJb.out.wb_
  simp only [List.take_succ_cons, List.take_zero, List.drop_succ_cons, List.drop_zero]
  repeat still_step
  refine wpStill_nil ?_
  obtain ⟨z, hz, hM⟩ := HJb.out.vj.be.mw
  have HM := Aside0.mk (And.intro hz hM)
  clear hz hM
  refine wpl_store Bk.int_inj rfl _ _ _ 87 rfl HM.out.2 law3 Try.underlying87 (by unfold maxLen; have := HM.out.1; have := HN.out; omega) (y := e.wk) (keyOf_int_mk Try.underlying3 HWK.out) (val := .agg (wkA { k with pt := true, cd := e.er })) rfl rfl rfl ?_
  intro w13 hm13 hg13
  have HP := Aside0.mk (And.intro hm13 hg13)
  clear hm13 hg13
  go_wp2
  go_ret
  obtain ⟨hm13, hg13⟩ := HP.out
  have hs : (wV (b.do_ c e k.e.dr).1.wks e.wk).isSome = true := by show ((b.wks e.wk).map _).isSome = true; rw [HK.out]; rfl
  rw [if_pos hs, wV_upd] at hm13
  exact VPost.of HF.out (by first | exact HC.out | rfl) (HJb.out.vj.be.put hm13 HM.out.1 (Nat.le_refl _) hg13) (HJb.out.vj.fr.trans (grown_fr hg13 g m))
 ·have HF := Aside0.mk (show pointV c b k e = b.do_ c e k.e.dr by unfold pointV; rw [if_neg (by rw [HOK.out]; decide), if_neg hd])
  have d0 : ((b.do_ c e k.e.dr).2 == 0) = false := beq_eq_false_iff_ne.2 (hd)
  clear hd
  go_wp2
  go_ret
  exact VPost.of HF.out rfl HD.out.vj.be HD.out.vj.fr
theorem vpoint_again_t {w : World} {B q g m wm n : Nat} {c : Cf} {b : Vb} {k : Wk} (e : Ev7) (hx : (Lit.int .i64 e.cn).wf = true) (hwk : (Lit.int .i64 e.wk).wf = true) (hn : n + 1 ≤ 1000000) (h : VbIs w B q g m wm n c b) (hk : b.wks e.wk = some k) (e1 : (e.er != 1) = true) (e3 : (e.er != 3) = true) (e6 : (e.er != 6) = true) (hp : k.pt = true) :
  Calls Try.prog 74 #[pA q, .agg (wkA k), .agg e.cells] w (VPost w B q g m wm n c (pointV c b k e)) := by
 have hu0 := Try.underlying89
 have hu1 := Try.underlying60
 have hu2 := Try.underlying124
 have HF := Aside0.mk (show pointV c b k e = (b, 6) by unfold pointV; rw [if_pos (show pointBad b k e = true by unfold pointBad; rw [hp]; rfl)])
 have t1 := e1
 have t2 := e3
 have t3 := e6
 have p0 := hp
 have HX := Aside0.mk hx
 have HWK := Aside0.mk hwk
 have HN := Aside0.mk hn
 have HK := Aside0.mk hk
 have HJ := Aside0.mk (show Wj w ((w.alloc (.cells (wkA k) 124)).alloc (.cells e.cells 60)) B q g m wm n c b e (w.heap.size + 1) k w.heap.size from ⟨⟨(h.alloc _).alloc _, blk_new' w _ _, ((Fr.refl w _).alloc _).alloc _⟩, blk_alloc (blk_new w _) _⟩)
 clear hx hwk hn h hk e1 e3 e6 hp
 have hcb := fun i => HJ.out.vj.be.cell i
 have hce := fun i => blk_cell HJ.out.vj.eb_ i
 have hcw := fun i => blk_cell HJ.out.wb_ i
 have hlb := HJ.out.vj.be.lt
 have hle := blk_lt HJ.out.vj.eb_
 have hlw := blk_lt HJ.out.wb_
 go_enter Try.func74, Try.ntmps74
 go_upto_region 2 with (fail)
 refine gen_world' (fun W => Wj w W B q g m wm n c b e (w.heap.size + 1) k w.heap.size) (by exact HJ.out) fun w3 Hw3 => ?_
 have HJw3 := Aside0.mk Hw3
 clear Hw3
 clear hcb hce hcw hlb hle hlw
 have hcb := fun i => HJw3.out.vj.be.cell i
 have hce := fun i => blk_cell HJw3.out.vj.eb_ i
 have hcw := fun i => blk_cell HJw3.out.wb_ i
 have hlb := HJw3.out.vj.be.lt
 have hle := blk_lt HJw3.out.vj.eb_
 have hlw := blk_lt HJw3.out.wb_
 go_quiet (fail)
 go_wp2
 go_ret
 exact VPost.of HF.out rfl ((HJw3.out.drewN _).vj.be.up (by omega)) (HJw3.out.drewN _).vj.fr
theorem vpoint_conn_t {w : World} {B q g m wm n : Nat} {c : Cf} {b : Vb} {k : Wk} (e : Ev7) (hx : (Lit.int .i64 e.cn).wf = true) (hwk : (Lit.int .i64 e.wk).wf = true) (hn : n + 1 ≤ 1000000) (h : VbIs w B q g m wm n c b) (hk : b.wks e.wk = some k) (e1 : (e.er != 1) = true) (e3 : (e.er != 3) = true) (e6 : (e.er != 6) = true) (hp : k.pt = false) (hc : (e.cn != k.e.cn) = true) :
  Calls Try.prog 74 #[pA q, .agg (wkA k), .agg e.cells] w (VPost w B q g m wm n c (pointV c b k e)) := by
 have hu0 := Try.underlying89
 have hu1 := Try.underlying60
 have hu2 := Try.underlying124
 have HF := Aside0.mk (show pointV c b k e = (b, 6) by unfold pointV; rw [if_pos (show pointBad b k e = true by unfold pointBad; rw [hp, hc]; rfl)])
 have t1 := e1
 have t2 := e3
 have t3 := e6
 have p0 := hp
 have c0 := hc
 have HX := Aside0.mk hx
 have HWK := Aside0.mk hwk
 have HN := Aside0.mk hn
 have HK := Aside0.mk hk
 have HJ := Aside0.mk (show Wj w ((w.alloc (.cells (wkA k) 124)).alloc (.cells e.cells 60)) B q g m wm n c b e (w.heap.size + 1) k w.heap.size from ⟨⟨(h.alloc _).alloc _, blk_new' w _ _, ((Fr.refl w _).alloc _).alloc _⟩, blk_alloc (blk_new w _) _⟩)
 clear hx hwk hn h hk e1 e3 e6 hp hc
 have hcb := fun i => HJ.out.vj.be.cell i
 have hce := fun i => blk_cell HJ.out.vj.eb_ i
 have hcw := fun i => blk_cell HJ.out.wb_ i
 have hlb := HJ.out.vj.be.lt
 have hle := blk_lt HJ.out.vj.eb_
 have hlw := blk_lt HJ.out.wb_
 go_enter Try.func74, Try.ntmps74
 go_upto_region 2 with (fail)
 refine gen_world' (fun W => Wj w W B q g m wm n c b e (w.heap.size + 1) k w.heap.size) (by exact HJ.out) fun w3 Hw3 => ?_
 have HJw3 := Aside0.mk Hw3
 clear Hw3
 clear hcb hce hcw hlb hle hlw
 have hcb := fun i => HJw3.out.vj.be.cell i
 have hce := fun i => blk_cell HJw3.out.vj.eb_ i
 have hcw := fun i => blk_cell HJw3.out.wb_ i
 have hlb := HJw3.out.vj.be.lt
 have hle := blk_lt HJw3.out.vj.eb_
 have hlw := blk_lt HJw3.out.wb_
 go_quiet (fail)
 go_wp2
 go_ret
 exact VPost.of HF.out rfl ((HJw3.out.drewN _).vj.be.up (by omega)) (HJw3.out.drewN _).vj.fr
theorem vpoint_do_t {w : World} {B q g m wm n : Nat} {c : Cf} {b : Vb} {k : Wk} (e : Ev7) (hx : (Lit.int .i64 e.cn).wf = true) (hwk : (Lit.int .i64 e.wk).wf = true) (hn : n + 1 ≤ 1000000) (h : VbIs w B q g m wm n c b) (hk : b.wks e.wk = some k) (e1 : (e.er != 1) = true) (e3 : (e.er != 3) = true) (e6 : (e.er != 6) = true) (hp : k.pt = false) (hc : (e.cn != k.e.cn) = false) (hb : decide (e.t < k.beg) = false) (ha : decide (e.t > b.clk) = false) :
  Calls Try.prog 74 #[pA q, .agg (wkA k), .agg e.cells] w (VPost w B q g m wm n c (pointV c b k e)) := by
 have hu0 := Try.underlying89
 have hu1 := Try.underlying60
 have hu2 := Try.underlying124
 have t1 := e1
 have t2 := e3
 have t3 := e6
 have b0 := hb
 have a0 := ha
 have p0 := hp
 have c0 := hc
 have HOK := Aside0.mk (show pointBad b k e = false by unfold pointBad timedB; simp [e1, e3, e6, hp, hc, hb, ha])
 have HX := Aside0.mk hx
 have HWK := Aside0.mk hwk
 have HN := Aside0.mk hn
 have HK := Aside0.mk hk
 have HJ := Aside0.mk (show Wj w ((w.alloc (.cells (wkA k) 124)).alloc (.cells e.cells 60)) B q g m wm n c b e (w.heap.size + 1) k w.heap.size from ⟨⟨(h.alloc _).alloc _, blk_new' w _ _, ((Fr.refl w _).alloc _).alloc _⟩, blk_alloc (blk_new w _) _⟩)
 clear hx hwk hn h hk e1 e3 e6 hp hc hb ha
 have hcb := fun i => HJ.out.vj.be.cell i
 have hce := fun i => blk_cell HJ.out.vj.eb_ i
 have hcw := fun i => blk_cell HJ.out.wb_ i
 have hlb := HJ.out.vj.be.lt
 have hle := blk_lt HJ.out.vj.eb_
 have hlw := blk_lt HJ.out.wb_
 go_enter Try.func74, Try.ntmps74
 go_upto_region 2 with (fail)
 refine gen_world' (fun W => Wj w W B q g m wm n c b e (w.heap.size + 1) k w.heap.size) (by exact HJ.out) fun w3 Hw3 => ?_
 have HJw3 := Aside0.mk Hw3
 clear Hw3
 clear hcb hce hcw hlb hle hlw
 have hcb := fun i => HJw3.out.vj.be.cell i
 have hce := fun i => blk_cell HJw3.out.vj.eb_ i
 have hcw := fun i => blk_cell HJw3.out.wb_ i
 have hlb := HJw3.out.vj.be.lt
 have hle := blk_lt HJw3.out.vj.eb_
 have hlw := blk_lt HJw3.out.wb_
 go_quiet ((go_at_call 42; exact Calls.quiet_of_same (vclock_q HJw3.out.vj.be _)))
 go_upto_region 4 with (fail)
 refine gen_world' (fun W => Wj w W B q g m wm n c b e (w.heap.size + 1) k w.heap.size) (by exact HJw3.out.drewN _) fun w6 Hw6 => ?_
 have HJw6 := Aside0.mk Hw6
 clear Hw6
 clear hcb hce hcw hlb hle hlw
 have hcb := fun i => HJw6.out.vj.be.cell i
 have hce := fun i => blk_cell HJw6.out.vj.eb_ i
 have hcw := fun i => blk_cell HJw6.out.wb_ i
 have hlb := HJw6.out.vj.be.lt
 have hle := blk_lt HJw6.out.vj.eb_
 have hlw := blk_lt HJw6.out.wb_
 refine start_ (n := 10) (S := (fun w' => (∀ i, w'.cell? ⟨q, i, none⟩ = (vbA g c.c0 wm)[i]?) ∧ (∀ i, w'.cell? ⟨w.heap.size + 1, i, none⟩ = (e.cells)[i]?) ∧ (∀ i, w'.cell? ⟨w.heap.size, i, none⟩ = (wkA k)[i]?))) (ds := [8]) #[ff,ff,ff,ff,ff,ff,ff,ff,ff,ff] (by kernel_rfl) rfl rfl HJw6.out.drew.cells (fun hHeld => ?_)
 refine with_tabW vpR.tab4 vpR.bits4 (fun HT_ HW_ => ?_)
 have HJ7 := Aside0.mk HJw6.out.drew
 generalize w6.drew = w7 at HJ7 hHeld ⊢
 clear hcb hce hcw hlb hle hlw
 have hlb := HJ7.out.vj.be.lt
 have hle := blk_lt HJ7.out.vj.eb_
 have hlw := blk_lt HJ7.out.wb_
 refine pure_ (i := 0) (N := (some 52)) (v := ?_) (a' := ?_) #[tt,ff,ff,ff,ff,ff,ff,ff,ff,ff] rfl rfl (any_of HT_.out (by kernel_rfl)) (fun _ _ _ h => h) (Or.inl ⟨by rfl, ?_⟩) ?_ ?_
 rotate_left
 ·intro w'
  go_simp
  with_reducible rfl
 rotate_left
 ·simp only [Act.put, sQ0, sQ1, sQ2, i64_w]
  rfl
 refine pure_ (i := 1) (N := (some 53)) (v := ?_) (a' := ?_) #[tt,tt,ff,ff,ff,ff,ff,ff,ff,ff] rfl rfl (any_of HT_.out (by kernel_rfl)) (fun _ _ _ h => h) (Or.inl ⟨by rfl, ?_⟩) ?_ ?_
 rotate_left
 ·intro w'
  go_simp
  with_reducible rfl
 rotate_left
 ·simp only [Act.put, sQ0, sQ1, sQ2, i64_w]
  rfl
 refine pure_ (i := 2) (N := (some 54)) (v := ?_) (a' := ?_) #[tt,tt,tt,ff,ff,ff,ff,ff,ff,ff] rfl rfl (any_of HT_.out (by kernel_rfl)) (fun _ _ _ h => h) (Or.inl ⟨by rfl, ?_⟩) ?_ ?_
 rotate_left
 ·intro w'
  go_simp
  with_reducible rfl
 rotate_left
 ·simp only [Act.put, sQ0, sQ1, sQ2, i64_w]
  rfl
 refine pure_ (i := 5) (N := (some 57)) (v := ?_) (a' := ?_) #[tt,tt,tt,ff,ff,tt,ff,ff,ff,ff] rfl rfl (any_of HT_.out (by kernel_rfl)) (fun _ _ _ h => h) (Or.inl ⟨by rfl, ?_⟩) ?_ ?_
 rotate_left
 ·intro w'
  go_simp
  with_reducible rfl
 rotate_left
 ·simp only [Act.put, sQ0, sQ1, sQ2, i64_w]
  rfl
 refine pure_ (i := 6) (N := (some 58)) (v := ?_) (a' := ?_) #[tt,tt,tt,ff,ff,tt,tt,ff,ff,ff] rfl rfl (any_of HT_.out (by kernel_rfl)) (fun _ _ _ h => h) (Or.inl ⟨by rfl, ?_⟩) ?_ ?_
 rotate_left
 ·intro w'
  go_simp
  with_reducible rfl
 rotate_left
 ·simp only [Act.put, sQ0, sQ1, sQ2, i64_w]
  rfl
 refine take_ (i := 3) (N := (some 55)) (v := ?_) (a' := ?_) #[tt,tt,tt,tt,ff,tt,tt,ff,ff,ff] rfl rfl (take_ofW HT_.out HW_.out (by kernel_rfl)) (fun _ _ _ h => h) (Or.inl ⟨by rfl, ?_⟩) hHeld ?_ ?_
 rotate_left
 ·rintro w' ⟨s0, s1, s2⟩
  go_simp
  with_reducible rfl
 rotate_left
 ·simp only [Act.put, sQ0, sQ1, sQ2, i64_w]
  rfl
 refine take_ (i := 4) (N := (some 56)) (v := ?_) (a' := ?_) #[tt,tt,tt,tt,tt,tt,tt,ff,ff,ff] rfl rfl (take_ofW HT_.out HW_.out (by kernel_rfl)) (fun _ _ _ h => h) (Or.inl ⟨by rfl, ?_⟩) hHeld ?_ ?_
 rotate_left
 ·rintro w' ⟨s0, s1, s2⟩
  go_simp
  with_reducible rfl
 rotate_left
 ·simp only [Act.put, sQ0, sQ1, sQ2, i64_w]
  rfl
 refine take_ (i := 7) (N := (some 59)) (v := ?_) (a' := ?_) #[tt,tt,tt,tt,tt,tt,tt,tt,ff,ff] rfl rfl (take_ofW HT_.out HW_.out (by kernel_rfl)) (fun _ _ _ h => h) (Or.inl ⟨by rfl, ?_⟩) hHeld ?_ ?_
 rotate_left
 ·rintro w' ⟨s0, s1, s2⟩
  go_simp
  with_reducible rfl
 rotate_left
 ·simp only [Act.put, sQ0, sQ1, sQ2, i64_w]
  rfl
 refine last_ (i := 8) (N := (some 60)) #[tt,tt,tt,tt,tt,tt,tt,tt,tt,ff] rfl rfl (one_of HT_.out (by kernel_rfl)) (by decide) (fun K hK => ?_)
 refine call_ (f := 38) #[pA g, .agg e.cells, .int .i64 k.e.dr] (by rfl) rfl (by go_simp <;> rfl) ?_
 refine (vdo_any e k.e.dr HX.out HN.out HJ7.out.vj.be).mono ?_
 rintro r w8 ⟨rfl, hm, hf⟩
 refine ⟨_, rfl, ?_⟩
 have HD := Aside0.mk (HJ7.out.turn hm hf)
 clear hm hf
 refine hK.out _ _ ?_
 clear hK K
 refine norm_ (a' := ?_) ?_ ?_
 rotate_left
 ·show Act.put _ (some 60) _ = _
  simp only [Act.put, sQ0, sQ1, sQ2, i64_w]
  rfl
 refine pure_ (i := 9) (N := (some 8)) (v := ?_) (a' := ?_) #[tt,tt,tt,tt,tt,tt,tt,tt,tt,tt] rfl rfl (any_of HT_.out (by kernel_rfl)) (fun _ _ _ h => h) (Or.inl ⟨by rfl, ?_⟩) ?_ ?_
 rotate_left
 ·intro w'
  go_simp
  with_reducible rfl
 rotate_left
 ·simp only [Act.put, sQ0, sQ1, sQ2, i64_w]
  rfl
 refine done_ (done_of HT_.out (by kernel_rfl)) ?_
 clear hlb hle hlw
 have hcb := fun i => HD.out.vj.be.cell i
 have hce := fun i => blk_cell HD.out.vj.eb_ i
 have hcw := fun i => blk_cell HD.out.wb_ i
 have hlb := HD.out.vj.be.lt
 have hle := blk_lt HD.out.vj.eb_
 have hlw := blk_lt HD.out.wb_
 have hfw := fun i => blk_frozen HD.out.wb_ i
 by_cases hd : (b.do_ c e k.e.dr).2 = 0
 ·have HF := Aside0.mk (show pointV c b k e = ({ (b.do_ c e k.e.dr).1 with wks := updW b.wks e.wk (some { k with pt := true, cd := e.er }) }, 0) by unfold pointV; rw [if_neg (by rw [HOK.out]; decide), if_pos hd])
  have d0 : ((b.do_ c e k.e.dr).2 == 0) = true := beq_iff_eq.2 (hd)
  have HC := Aside0.mk hd
  clear hd
  go_upto_region 6 with (fail)
  refine gen_world' (fun W => Wj w W B q g m wm (n + 1) c (b.do_ c e k.e.dr).1 e (w.heap.size + 1) k w.heap.size) (by exact HD.out) fun w9 Hw9 => ?_
  have HJw9 := Aside0.mk Hw9
  clear Hw9 hfw
  clear hcb hce hcw hlb hle hlw
  have hcb := fun i => HJw9.out.vj.be.cell i
  have hce := fun i => blk_cell HJw9.out.vj.eb_ i
  have hcw := fun i => blk_cell HJw9.out.wb_ i
  have hlb := HJw9.out.vj.be.lt
  have hle := blk_lt HJw9.out.vj.eb_
  have hlw := blk_lt HJw9.out.wb_
  refine start_ (n := 6) (S := (fun w' => (∀ i, w'.cell? ⟨w.heap.size + 1, i, none⟩ = (e.cells)[i]?) ∧ w'.cell? ⟨w.heap.size, 9, none⟩ = some (.int .i64 k.cd) ∧ (∀ i, w'.frozen? ⟨w.heap.size, i, none⟩ = false))) (ds := [5]) #[ff,ff,ff,ff,ff,ff] (by kernel_rfl) rfl rfl ⟨(HJw9.out.drew).cells.2.1, (HJw9.out.drew).cells.2.2 9, fun i => blk_frozen (HJw9.out.drew).wb_ i⟩ (fun hHeld => ?_)
  refine with_tabW vpR.tab6 vpR.bits6 (fun HT_ HW_ => ?_)
  have HJa := Aside0.mk HJw9.out.drew
  generalize w9.drew = w10 at HJa hHeld ⊢
  clear hcb hce hcw hlb hle hlw
  have HS6 := Aside0.mk (HJa.out.held6)
  have hlb := HJa.out.vj.be.lt
  have hle := blk_lt HJa.out.vj.eb_
  have hlw := blk_lt HJa.out.wb_
  refine pure_ (i := 0) (N := (some 63)) (v := ?_) (a' := ?_) #[tt,ff,ff,ff,ff,ff] rfl rfl (any_of HT_.out (by kernel_rfl)) (fun _ _ _ h => h) (Or.inl ⟨by rfl, ?_⟩) ?_ ?_
  rotate_left
  ·intro w'
   go_simp
   with_reducible rfl
  rotate_left
  ·simp only [Act.put, sQ0, sQ1, sQ2, i64_w]
   rfl
  refine pure_ (i := 2) (N := (some 65)) (v := ?_) (a' := ?_) #[tt,ff,tt,ff,ff,ff] rfl rfl (any_of HT_.out (by kernel_rfl)) (fun _ _ _ h => h) (Or.inl ⟨by rfl, ?_⟩) ?_ ?_
  rotate_left
  ·intro w'
   go_simp
   with_reducible rfl
  rotate_left
  ·simp only [Act.put, sQ0, sQ1, sQ2, i64_w]
   rfl
  refine take_ (i := 1) (N := (some 64)) (v := ?_) (a' := ?_) #[tt,tt,tt,ff,ff,ff] rfl rfl (take_ofW HT_.out HW_.out (by kernel_rfl)) (fun _ _ _ h => h) (Or.inl ⟨by rfl, ?_⟩) hHeld ?_ ?_
  rotate_left
  ·rintro w' ⟨s0, s1, s2⟩
   go_simp
   with_reducible rfl
  rotate_left
  ·simp only [Act.put, sQ0, sQ1, sQ2, i64_w]
   rfl
  refine one_ (i := 3) (N := none) #[tt,tt,tt,tt,ff,ff] rfl rfl (one_of HT_.out (by kernel_rfl)) (by decide) (fun K hK => ?_)
  have hc8 : w10.cell? ⟨w.heap.size, 8, none⟩ = some (.bool k.pt) := blk_cell HJa.out.wb_ 8
  refine skip_ (by rfl) rfl (w1 := w10.setCell ⟨w.heap.size, 8, none⟩ (.bool true)) (by have q1 := hHeld.2.2 8; go_simp) ?_
  refine hK.out _ _ HS6.out (fun hHeld => ?_)
  clear hK K
  refine pure_ (i := 4) (N := (some 66)) (v := ?_) (a' := ?_) #[tt,tt,tt,tt,tt,ff] rfl rfl (any_of HT_.out (by kernel_rfl)) (fun _ _ _ h => h) (Or.inl ⟨by rfl, ?_⟩) ?_ ?_
  rotate_left
  ·intro w'
   go_simp
   with_reducible rfl
  rotate_left
  ·simp only [Act.put, sQ0, sQ1, sQ2, i64_w]
   rfl
  refine last_ (i := 5) (N := none) #[tt,tt,tt,tt,tt,tt] rfl rfl (one_of HT_.out (by kernel_rfl)) (by decide) (fun K hK => ?_)
  refine skip_ (by rfl) rfl (w1 := (w10.setCell ⟨w.heap.size, 8, none⟩ (.bool true)).setCell ⟨w.heap.size, 9, none⟩ (.int .i64 e.er)) (by have q1 := hHeld.2.2 9; have q2 := hHeld.2.1; go_simp) ?_
  refine hK.out _ _ ?_
  clear hK K
  refine done_ (done_of HT_.out (by kernel_rfl)) ?_
  go_upto_region 7 with (fail)
  refine gen_world' (fun W => Wj w W B q g m wm (n + 1) c (b.do_ c e k.e.dr).1 e (w.heap.size + 1) { k with pt := true, cd := e.er } w.heap.size) (by exact HJa.out.note (Nat.le_refl _)) fun w11 Hw11 => ?_
  have HJw11 := Aside0.mk Hw11
  clear Hw11 hlb hle hlw
  refine still_tail_at' 7 (by kernel_rfl) (by kernel_rfl) fun w12 hw12 => ?_
  have HJb := Aside0.mk (show Wj w w12 B q g m wm (n + 1) c (b.do_ c e k.e.dr).1 e (w.heap.size + 1) { k with pt := true, cd := e.er } w.heap.size by rw [hw12]; exact HJw11.out.drew)
  clear hw12
  have hcb := fun i => HJb.out.vj.be.cell i
  have hce := fun i => blk_cell HJb.out.vj.eb_ i
  have hcw := fun i => blk_cell HJb.out.wb_ i
  have hlb := HJb.out.vj.be.lt
  have hle := blk_lt HJb.out.vj.eb_
  have hlw := blk_lt HJb.out.wb_
  simp only [List.take_succ_cons, List.take_zero, List.drop_succ_cons, List.drop_zero]
  repeat still_step
  refine wpStill_nil ?_
  obtain ⟨z, hz, hM⟩ := HJb.out.vj.be.mw
  have HM := Aside0.mk (And.intro hz hM)
  clear hz hM
  refine wpl_store Bk.int_inj rfl _ _ _ 87 rfl HM.out.2 law3 Try.underlying87 (by unfold maxLen; have := HM.out.1; have := HN.out; omega) (y := e.wk) (keyOf_int_mk Try.underlying3 HWK.out) (val := .agg (wkA { k with pt := true, cd := e.er })) rfl rfl rfl ?_
  intro w13 hm13 hg13
  have HP := Aside0.mk (And.intro hm13 hg13)
  clear hm13 hg13
  go_wp2
  go_ret
  obtain ⟨hm13, hg13⟩ := HP.out
  have hs : (wV (b.do_ c e k.e.dr).1.wks e.wk).isSome = true := by show ((b.wks e.wk).map _).isSome = true; rw [HK.out]; rfl
  rw [if_pos hs, wV_upd] at hm13
  exact VPost.of HF.out (by first | exact HC.out | rfl) (HJb.out.vj.be.put hm13 HM.out.1 (Nat.le_refl _) hg13) (HJb.out.vj.fr.trans (grown_fr hg13 g m))
 ·have HF := Aside0.mk (show pointV c b k e = b.do_ c e k.e.dr by unfold pointV; rw [if_neg (by rw [HOK.out]; decide), if_neg hd])
  have d0 : ((b.do_ c e k.e.dr).2 == 0) = false := beq_eq_false_iff_ne.2 (hd)
  clear hd
  go_wp2
  go_ret
  exact VPost.of HF.out rfl HD.out.vj.be HD.out.vj.fr
theorem vpoint_early {w : World} {B q g m wm n : Nat} {c : Cf} {b : Vb} {k : Wk} (e : Ev7) (hx : (Lit.int .i64 e.cn).wf = true) (hwk : (Lit.int .i64 e.wk).wf = true) (hn : n + 1 ≤ 1000000) (h : VbIs w B q g m wm n c b) (hk : b.wks e.wk = some k) (e1 : (e.er != 1) = true) (e3 : (e.er != 3) = true) (e6 : (e.er != 6) = true) (hp : k.pt = false) (hc : (e.cn != k.e.cn) = false) (hb : decide (e.t < k.beg) = true) :
  Calls Try.prog 74 #[pA q, .agg (wkA k), .agg e.cells] w (VPost w B q g m wm n c (pointV c b k e)) := by
 have hu0 := Try.underlying89
 have hu1 := Try.underlying60
 have hu2 := Try.underlying124
 have HF := Aside0.mk (show pointV c b k e = (b, 6) by unfold pointV; rw [if_pos (show pointBad b k e = true by unfold pointBad; unfold timedB; rw [hp, hc, e1, e3, e6, hb]; rfl)])
 have t1 := e1
 have t2 := e3
 have t3 := e6
 have p0 := hp
 have c0 := hc
 have b0 := hb
 have HX := Aside0.mk hx
 have HWK := Aside0.mk hwk
 have HN := Aside0.mk hn
 have HK := Aside0.mk hk
 have HJ := Aside0.mk (show Wj w ((w.alloc (.cells (wkA k) 124)).alloc (.cells e.cells 60)) B q g m wm n c b e (w.heap.size + 1) k w.heap.size from ⟨⟨(h.alloc _).alloc _, blk_new' w _ _, ((Fr.refl w _).alloc _).alloc _⟩, blk_alloc (blk_new w _) _⟩)
 clear hx hwk hn h hk e1 e3 e6 hp hc hb
 have hcb := fun i => HJ.out.vj.be.cell i
 have hce := fun i => blk_cell HJ.out.vj.eb_ i
 have hcw := fun i => blk_cell HJ.out.wb_ i
 have hlb := HJ.out.vj.be.lt
 have hle := blk_lt HJ.out.vj.eb_
 have hlw := blk_lt HJ.out.wb_
 go_enter Try.func74, Try.ntmps74
 go_upto_region 2 with (fail)
 refine gen_world' (fun W => Wj w W B q g m wm n c b e (w.heap.size + 1) k w.heap.size) (by exact HJ.out) fun w3 Hw3 => ?_
 have HJw3 := Aside0.mk Hw3
 clear Hw3
 clear hcb hce hcw hlb hle hlw
 have hcb := fun i => HJw3.out.vj.be.cell i
 have hce := fun i => blk_cell HJw3.out.vj.eb_ i
 have hcw := fun i => blk_cell HJw3.out.wb_ i
 have hlb := HJw3.out.vj.be.lt
 have hle := blk_lt HJw3.out.vj.eb_
 have hlw := blk_lt HJw3.out.wb_
 go_quiet (fail)
 go_wp2
 go_ret
 exact VPost.of HF.out rfl ((HJw3.out.drewN _).vj.be.up (by omega)) (HJw3.out.drewN _).vj.fr
theorem vpoint_late {w : World} {B q g m wm n : Nat} {c : Cf} {b : Vb} {k : Wk} (e : Ev7) (hx : (Lit.int .i64 e.cn).wf = true) (hwk : (Lit.int .i64 e.wk).wf = true) (hn : n + 1 ≤ 1000000) (h : VbIs w B q g m wm n c b) (hk : b.wks e.wk = some k) (e1 : (e.er != 1) = true) (e3 : (e.er != 3) = true) (e6 : (e.er != 6) = true) (hp : k.pt = false) (hc : (e.cn != k.e.cn) = false) (hb : decide (e.t < k.beg) = false) (ha : decide (e.t > b.clk) = true) :
  Calls Try.prog 74 #[pA q, .agg (wkA k), .agg e.cells] w (VPost w B q g m wm n c (pointV c b k e)) := by
 have hu0 := Try.underlying89
 have hu1 := Try.underlying60
 have hu2 := Try.underlying124
 have HF := Aside0.mk (show pointV c b k e = (b, 6) by unfold pointV; rw [if_pos (show pointBad b k e = true by unfold pointBad; unfold timedB; rw [hp, hc, e1, e3, e6, hb, ha]; rfl)])
 have t1 := e1
 have t2 := e3
 have t3 := e6
 have p0 := hp
 have c0 := hc
 have b0 := hb
 have a0 := ha
 have HX := Aside0.mk hx
 have HWK := Aside0.mk hwk
 have HN := Aside0.mk hn
 have HK := Aside0.mk hk
 have HJ := Aside0.mk (show Wj w ((w.alloc (.cells (wkA k) 124)).alloc (.cells e.cells 60)) B q g m wm n c b e (w.heap.size + 1) k w.heap.size from ⟨⟨(h.alloc _).alloc _, blk_new' w _ _, ((Fr.refl w _).alloc _).alloc _⟩, blk_alloc (blk_new w _) _⟩)
 clear hx hwk hn h hk e1 e3 e6 hp hc hb ha
 have hcb := fun i => HJ.out.vj.be.cell i
 have hce := fun i => blk_cell HJ.out.vj.eb_ i
 have hcw := fun i => blk_cell HJ.out.wb_ i
 have hlb := HJ.out.vj.be.lt
 have hle := blk_lt HJ.out.vj.eb_
 have hlw := blk_lt HJ.out.wb_
 go_enter Try.func74, Try.ntmps74
 go_upto_region 2 with (fail)
 refine gen_world' (fun W => Wj w W B q g m wm n c b e (w.heap.size + 1) k w.heap.size) (by exact HJ.out) fun w3 Hw3 => ?_
 have HJw3 := Aside0.mk Hw3
 clear Hw3
 clear hcb hce hcw hlb hle hlw
 have hcb := fun i => HJw3.out.vj.be.cell i
 have hce := fun i => blk_cell HJw3.out.vj.eb_ i
 have hcw := fun i => blk_cell HJw3.out.wb_ i
 have hlb := HJw3.out.vj.be.lt
 have hle := blk_lt HJw3.out.vj.eb_
 have hlw := blk_lt HJw3.out.wb_
 go_quiet ((go_at_call 42; exact Calls.quiet_of_same (vclock_q HJw3.out.vj.be _)))
 go_wp2
 go_ret
 exact VPost.of HF.out rfl ((HJw3.out.drewN _).vj.be.up (by omega)) (HJw3.out.drewN _).vj.fr
theorem vpoint_any {w : World} {B q g m wm n : Nat} {c : Cf} {b : Vb} {k : Wk} (e : Ev7) (hx : (Lit.int .i64 e.cn).wf = true) (hwk : (Lit.int .i64 e.wk).wf = true) (hn : n + 1 ≤ 1000000) (h : VbIs w B q g m wm n c b) (hk : b.wks e.wk = some k) :
  Calls Try.prog 74 #[pA q, .agg (wkA k), .agg e.cells] w (VPost w B q g m wm n c (pointV c b k e)) := by
 cases e1 : (e.er != 1) with
 | false =>
  cases hp : k.pt with
  | true => exact vpoint_again_a e hx hwk hn h hk e1 hp
  | false =>
   cases hc : (e.cn != k.e.cn) with
   | true => exact vpoint_conn_a e hx hwk hn h hk e1 hp hc
   | false =>
    exact vpoint_do_a e hx hwk hn h hk e1 hp hc
 | true =>
  cases e3 : (e.er != 3) with
  | false =>
   cases hp : k.pt with
   | true => exact vpoint_again_b e hx hwk hn h hk e1 e3 hp
   | false =>
    cases hc : (e.cn != k.e.cn) with
    | true => exact vpoint_conn_b e hx hwk hn h hk e1 e3 hp hc
    | false =>
     exact vpoint_do_b e hx hwk hn h hk e1 e3 hp hc
  | true =>
   cases e6 : (e.er != 6) with
   | false =>
    cases hp : k.pt with
    | true => exact vpoint_again_c e hx hwk hn h hk e1 e3 e6 hp
    | false =>
     cases hc : (e.cn != k.e.cn) with
     | true => exact vpoint_conn_c e hx hwk hn h hk e1 e3 e6 hp hc
     | false =>
      exact vpoint_do_c e hx hwk hn h hk e1 e3 e6 hp hc
   | true =>
    cases hp : k.pt with
    | true => exact vpoint_again_t e hx hwk hn h hk e1 e3 e6 hp
    | false =>
     cases hc : (e.cn != k.e.cn) with
     | true => exact vpoint_conn_t e hx hwk hn h hk e1 e3 e6 hp hc
     | false =>
      cases hb : decide (e.t < k.beg) with
      | true => exact vpoint_early e hx hwk hn h hk e1 e3 e6 hp hc hb
      | false =>
       cases ha : decide (e.t > b.clk) with
       | true => exact vpoint_late e hx hwk hn h hk e1 e3 e6 hp hc hb ha
       | false =>
        exact vpoint_do_t e hx hwk hn h hk e1 e3 e6 hp hc hb ha
end Go.Proofs.Ythljanmfanppdaa.Vd
end
