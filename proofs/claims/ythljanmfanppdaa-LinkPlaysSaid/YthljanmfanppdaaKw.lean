/- What is proved: the two functions that look through a configuration's thirteen numbers come to the first one that may not be; no conditions. -/
import Derived.Test.YthljanmfanppdaaProg
import Derived.WalkKit
import Derived.KernelRfl
import Derived.Deep.LoopGhost
import Derived.Deep.QuietTactic
import Derived.BigQuiet
import Derived.Laws.CopyOwn
import Derived.Laws.Rows
import Derived.Test.YthljanmfanppdaaWWords
import Derived.Test.YthljanmfanppdaaWLast
import Derived.Test.YthljanmfanppdaaWMore
namespace Go.Proofs.Ythljanmfanppdaa.Kw
open Go.RowKit Go.Proofs.YthljanmfanppdaaW.PrintWords Go.Proofs.YthljanmfanppdaaW.PrintLast Go.Proofs.YthljanmfanppdaaW.PrintMore
set_option linter.unusedVariables false
/-- From where a configuration's number may be, and up to where. -/
def cfLeast (i : Int) : Int := if i = 5 then 0 else if i = 6 then 0 else if i = 7 then 0 else if i = 11 then 0 else if i = 12 then 0 else 1
def cfMost (i : Int) : Int := if i = 0 then 64 else if i = 1 then 8 else if i = 2 then 6 else if i = 3 then 4096 else if i = 4 then 8192 else if i = 6 then 4294967295 else if i = 7 then 256 else if i = 12 then 31 else 1073741823
theorem thirteen {i : Int} (h0 : 0 ≤ i) (h1 : i < 13) : i = 0 ∨ i = 1 ∨ i = 2 ∨ i = 3 ∨ i = 4 ∨ i = 5 ∨ i = 6 ∨ i = 7 ∨ i = 8 ∨ i = 9 ∨ i = 10 ∨ i = 11 ∨ i = 12 := by omega
/-- The first place, from i on, of a number that may not be. -/
def cfBad (l : List Int) : Nat → Int → Int × Int
  | 0, _ => (0, 0)
  | d + 1, i => if l.getD i.toNat 0 < cfLeast i ∨ cfMost i < l.getD i.toNat 0 then (i, 7) else cfBad l d (i + 1)
theorem knellref03_least.quiet (i : Int) (h0 : 0 ≤ i) (h1 : i < 13) (w : World) : Calls Try.prog 79 #[.int .i64 i] w fun e w' => e = .returned (.int .i64 (cfLeast i)) ∧ w' = w := by
  rcases thirteen h0 h1 with rfl | rfl | rfl | rfl | rfl | rfl | rfl | rfl | rfl | rfl | rfl | rfl | rfl
  all_goals
    go_enter Try.func79, Try.ntmps79
    go_wp2
    go_ret
    exact ⟨rfl, rfl⟩
theorem knellref03_most.quiet (i : Int) (h0 : 0 ≤ i) (h1 : i < 13) (w : World) : Calls Try.prog 80 #[.int .i64 i] w fun e w' => e = .returned (.int .i64 (cfMost i)) ∧ w' = w := by
  rcases thirteen h0 h1 with rfl | rfl | rfl | rfl | rfl | rfl | rfl | rfl | rfl | rfl | rfl | rfl | rfl
  all_goals
    go_enter Try.func80, Try.ntmps80
    go_wp2
    go_ret
    exact ⟨rfl, rfl⟩

theorem cfCells (cs : Array Value) (l : List Int) (hc : cs = (l.map (Value.int .i64)).toArray) (w : World) (t : TypeId) (i : Int) (h0 : 0 ≤ i) (h1 : i < l.length) :
    (w.alloc (.cells cs t)).cell? ⟨w.heap.size, i.toNat, none⟩ = some (.int .i64 (l.getD i.toNat 0)) := by
  subst hc
  have : i.toNat < l.length := by omega
  rw [World.cell?_alloc_new]
  simp [List.getD_eq_getElem?_getD, this]

set_option maxHeartbeats 1000000 in
theorem knellref03_Check.go (cs : Array Value) (l : List Int) (hl : l.length = 13) (hcs : cs = (l.map (Value.int .i64)).toArray) (w : World) :
    Calls Try.prog 60 #[.agg cs] w fun e w' => e = .returned (.tuple #[.int .i64 (cfBad l 13 0).1, .int .i64 (cfBad l 13 0).2]) ∧ Below w.heap.size w w' := by
  have hu := Try.underlying33
  have hn : cs.size = 13 := by rw [hcs]; simp [hl]
  have HX := Aside0.mk (cfCells cs l hcs w 33)
  have HL := Aside0.mk hl
  clear hcs hl
  go_enter Try.func60, Try.ntmps60
  go_wp2
  go_loopw [4] (fun v wr => ∃ i : Nat, v = .int .i64 (i : Int) ∧ Aside0 (i ≤ 13 ∧ cfBad l (13 - i) i = cfBad l 13 0 ∧ Below w.heap.size w wr ∧ ∀ a, wr.cell? a = (w.alloc (.cells cs 33)).cell? a)) (fun v _ => 13 - (intOf v).toNat)
  case atStart => exact ⟨0, rfl, ⟨by omega, rfl, (Below.refl _ _).alloc (Nat.le_refl _) _, fun _ => rfl⟩⟩
  case round =>
    obtain ⟨i, rfl, H⟩ := hrel
    have hle := H.out.1
    by_cases hlt : i < 13
    · obtain ⟨x, hx'⟩ : ∃ x, x = l.getD i 0 := ⟨_, rfl⟩
      have hx : wr.cell? ⟨w.heap.size, i, none⟩ = some (.int .i64 x) := by
        rw [hx']
        exact (H.out.2.2.2 _).trans (HX.out (i : Int) (by omega) (by rw [HL.out]; omega))
      have HB : Aside0 (cfBad l (13 - i) i = if x < cfLeast i ∨ cfMost i < x then ((i : Int), 7) else cfBad l (12 - i) ((i : Int) + 1)) := ⟨by
        rw [show 13 - i = (12 - i) + 1 from by omega, cfBad, hx']; rfl⟩
      clear hx'
      have H0 : (0 : Int) ≤ i := by omega
      have H1 : (i : Int) < 13 := by omega
      obtain ⟨lo, hlo⟩ : ∃ lo, lo = cfLeast i := ⟨_, rfl⟩
      obtain ⟨hi, hhi⟩ : ∃ hi, hi = cfMost i := ⟨_, rfl⟩
      have L : ∀ W, Calls Try.prog 79 #[.int .i64 (i : Int)] W fun e w' => e = .returned (.int .i64 lo) ∧ w' = W := fun W => by rw [hlo]; exact knellref03_least.quiet _ H0 H1 W
      have M : ∀ W, Calls Try.prog 80 #[.int .i64 (i : Int)] W fun e w' => e = .returned (.int .i64 hi) ∧ w' = W := fun W => by rw [hhi]; exact knellref03_most.quiet _ H0 H1 W
      rw [← hlo, ← hhi] at HB
      clear hlo hhi
      have L' := Aside0.mk L
      have M' := Aside0.mk M
      clear L M
      have hq := H.out.2.1
      rw [HB.out] at hq
      have HQ := Aside0.mk hq
      clear hq HB
      by_cases ha : x < lo
      · have ca : decide (x < lo) = true := decide_eq_true ha
        have hq := HQ.out
        rw [if_pos (.inl ha)] at hq
        have HR := Aside0.mk hq
        clear ha hq HQ
        go_wp2
        go_quiet ((first | (go_at_call 79; exact Calls.quiet_of_same (L'.out _)) | (go_at_call 80; exact Calls.quiet_of_same (M'.out _))))
        go_wp2
        go_ret2
        exact ⟨by rw [← HR.out]; rfl, pw_below_drewN H.out.2.2.1 _⟩
      · have ca : decide (x < lo) = false := decide_eq_false ha
        by_cases hb : hi < x
        · have cb : decide (hi < x) = true := decide_eq_true hb
          have hq := HQ.out
          rw [if_pos (.inr hb)] at hq
          have HR := Aside0.mk hq
          clear ha hb hq HQ
          go_wp2
          go_quiet ((first | (go_at_call 79; exact Calls.quiet_of_same (L'.out _)) | (go_at_call 80; exact Calls.quiet_of_same (M'.out _))))
          go_wp2
          go_ret2
          exact ⟨by rw [← HR.out]; rfl, pw_below_drewN H.out.2.2.1 _⟩
        · have cb : decide (hi < x) = false := decide_eq_false hb
          have hq := HQ.out
          rw [if_neg (by rintro (h | h) <;> omega)] at hq
          have HR := Aside0.mk hq
          clear ha hb hq HQ
          go_wp2
          go_quiet ((first | (go_at_call 79; exact Calls.quiet_of_same (L'.out _)) | (go_at_call 80; exact Calls.quiet_of_same (M'.out _))))
          go_wp2
          go_roundw
          case rel => exact ⟨i + 1, by go_num, ⟨by omega, by rw [show 13 - (i + 1) = 12 - i from by omega]; exact HR.out, pw_below_drewN H.out.2.2.1 _, fun a => H.out.2.2.2 a⟩⟩
          case measure => simp [intOf]; omega
    · have hq := H.out.2.1
      rw [show 13 - i = 0 from by omega, cfBad] at hq
      have HR := Aside0.mk hq
      have c0 : decide ((i : Int) < 13) = false := by simp; omega
      clear hq hlt hle
      go_wp2
      go_ret2
      exact ⟨by rw [← HR.out]; rfl, H.out.2.2.1⟩

theorem cfThirteen (l : List Int) (hl : l.length = 13) : ∃ c0 c1 c2 c3 c4 c5 c6 c7 c8 c9 c10 c11 c12, l = [c0, c1, c2, c3, c4, c5, c6, c7, c8, c9, c10, c11, c12] := by
  match l, hl with
  | [c0, c1, c2, c3, c4, c5, c6, c7, c8, c9, c10, c11, c12], _ => exact ⟨_, _, _, _, _, _, _, _, _, _, _, _, _, rfl⟩

theorem plan_List.go (l : List Int) (hl : l.length = 13) (w : World) :
    Calls Try.prog 81 #[.agg (l.map (Value.int .i64)).toArray] w fun e w' => e = .returned (.agg (l.map (Value.int .i64)).toArray) ∧ Below w.heap.size w w' := by
  obtain ⟨c0, c1, c2, c3, c4, c5, c6, c7, c8, c9, c10, c11, c12, rfl⟩ := cfThirteen l hl
  have hu32 := Try.underlying32
  have hu36 := Try.underlying36
  clear hl
  simp only [List.map_cons, List.map_nil]
  go_enter Try.func81, Try.ntmps81
  go_wp2
  refine bodyPost_ret (v := .agg #[.int .i64 c0, .int .i64 c1, .int .i64 c2, .int .i64 c3, .int .i64 c4, .int .i64 c5, .int .i64 c6, .int .i64 c7, .int .i64 c8, .int .i64 c9, .int .i64 c10, .int .i64 c11, .int .i64 c12]) (by simp [results, Try.results81, go_sem]) rfl ⟨rfl, ?_⟩
  repeat (first | exact Below.refl _ _ | apply below_alloc)


def cfSpans : Array Value := #[.int .i64 1, .int .i64 64, .int .i64 1, .int .i64 8, .int .i64 1, .int .i64 6, .int .i64 1, .int .i64 4096, .int .i64 1, .int .i64 8192, .int .i64 0, .int .i64 1073741823, .int .i64 0, .int .i64 4294967295, .int .i64 0, .int .i64 256, .int .i64 1, .int .i64 1073741823, .int .i64 1, .int .i64 1073741823, .int .i64 1, .int .i64 1073741823, .int .i64 0, .int .i64 1073741823, .int .i64 0, .int .i64 31]
theorem cfSpanCells (i : Int) (h0 : 0 ≤ i) (h1 : i < 13) : cfSpans[i.toNat * 2]? = some (.int .i64 (cfLeast i)) ∧ cfSpans[i.toNat * 2 + 1]? = some (.int .i64 (cfMost i)) := by
  rcases thirteen h0 h1 with rfl | rfl | rfl | rfl | rfl | rfl | rfl | rfl | rfl | rfl | rfl | rfl | rfl <;> exact ⟨rfl, rfl⟩
set_option maxRecDepth 100000 in
theorem cfIndex (l : List Int) (hl : l.length = 13) (i : Nat) (hi : i < 13) (w : World) :
    (Instr.index 32 (.agg (l.map (Value.int .i64)).toArray) (.int .i64 (i : Int))).run Try.prog w = .ok (.int .i64 (l.getD i 0)) w := by
  obtain ⟨c0, c1, c2, c3, c4, c5, c6, c7, c8, c9, c10, c11, c12, rfl⟩ := cfThirteen l hl
  have : i = 0 ∨ i = 1 ∨ i = 2 ∨ i = 3 ∨ i = 4 ∨ i = 5 ∨ i = 6 ∨ i = 7 ∨ i = 8 ∨ i = 9 ∨ i = 10 ∨ i = 11 ∨ i = 12 := by omega
  simp only [List.map_cons, List.map_nil]
  rcases this with rfl | rfl | rfl | rfl | rfl | rfl | rfl | rfl | rfl | rfl | rfl | rfl | rfl <;> rfl

theorem gate_load {P : Program} {ops : Array Oper} {o : Oper} {rest : List Oper} {a : Act} {Q : Exit → Act → World → Prop} {W : World} {t : TypeId} {p : Tmp} (_ho : o.op = .load t (.tmp p)) (h : wpList P ops Q (o :: rest) a W) : wpList P ops Q (o :: rest) a W := h
theorem heap_one (w : World) (o1 o2 : Obj) (cs : Array Value) : (((w.alloc o1).alloc o2).setRow (w.heap.size + 1) cs).heap[w.heap.size]? = some o1 := by
  rw [setRow_other _ _ _ _ (by omega), Below.heap_alloc _ _ _ (by simp)]
  exact heap_alloc_new w o1
theorem heap_two (w : World) (o1 o2 : Obj) : ((w.alloc o1).alloc o2).heap[w.heap.size + 1]? = some o2 := by
  have := heap_alloc_new (w.alloc o1) o2
  simpa using this
set_option maxHeartbeats 1000000 in
set_option maxRecDepth 100000 in
theorem plan_Check.go (l : List Int) (hl : l.length = 13) (w : World) :
    Calls Try.prog 62 #[.agg (l.map (Value.int .i64)).toArray] w fun e w' => e = .returned (.tuple #[.int .i64 (cfBad l 13 0).1, .int .i64 (cfBad l 13 0).2]) ∧ Below w.heap.size w w' := by
  have hu36 := Try.underlying36
  have hu131 := Try.underlying131
  have hu132 := Try.underlying132
  have HX := Aside0.mk (fun i hi w => cfIndex l hl i hi w)
  have HG := Aside0.mk (fun w => plan_List.go l hl w)
  obtain ⟨c0, c1, c2, c3, c4, c5, c6, c7, c8, c9, c10, c11, c12, e⟩ := cfThirteen l hl
  rw [e] at HX HG ⊢
  have HE := Aside0.mk e
  clear hl e
  simp only [List.map_cons, List.map_nil] at HX HG ⊢
  go_enter Try.func62, Try.ntmps62
  go_wp2_with (first | ((with_reducible refine gate_store (t := 132) rfl ?_); refine wpList_store_row rfl 132 _ _ rfl (w.heap.size + 1) cfSpans rfl rfl 132 _ (heap_two _ _ _) (by kernel_rfl) (by kernel_rfl) (by kernel_rfl) ?_) | ((with_reducible refine gate_load (t := 36) rfl ?_); refine wpList_load_row rfl 36 _ rfl w.heap.size rfl 36 _ (0, 0) _ (heap_one _ _ _ _) hu36 rfl (by kernel_rfl) ?_) | fail)
  (with_reducible refine (HG.out _).mono ?_)
  rintro e w1 ⟨rfl, hb⟩
  have HC : Aside0 (∀ i : Int, 0 ≤ i → i < 13 → w1.cell? ⟨w.heap.size + 1, i.toNat * 2, none⟩ = some (.int .i64 (cfLeast i)) ∧ w1.cell? ⟨w.heap.size + 1, i.toNat * 2 + 1, none⟩ = some (.int .i64 (cfMost i))) := ⟨fun i h0 h1 => by
    have hc := cfSpanCells i h0 h1
    rw [hb.cell (by simp), hb.cell (by simp), cell_setRow_same _ _ _ _ _ _ _ (heap_two _ _ _), cell_setRow_same _ _ _ _ _ _ _ (heap_two _ _ _)]
    exact hc⟩
  have HB : Aside0 (Below w.heap.size w w1) := ⟨below_then (below_setRow (below_alloc (below_alloc (Below.refl _ _) _) _) (by omega) _) (by simp; omega) hb⟩
  clear hb
  go_wp2_with fail
  obtain ⟨cv, hcv⟩ : ∃ cv : Value, cv = .agg #[.int .i64 c0, .int .i64 c1, .int .i64 c2, .int .i64 c3, .int .i64 c4, .int .i64 c5, .int .i64 c6, .int .i64 c7, .int .i64 c8, .int .i64 c9, .int .i64 c10, .int .i64 c11, .int .i64 c12] := ⟨_, rfl⟩
  rw [← hcv] at HX ⊢
  clear hcv HG
  go_loopw [23] (fun v wr => ∃ i : Nat, v = .int .i64 (i : Int) ∧ Aside0 (i ≤ 13 ∧ cfBad l (13 - i) i = cfBad l 13 0 ∧ Below w.heap.size w wr ∧ ∀ a, wr.cell? a = w1.cell? a)) (fun v _ => 13 - (intOf v).toNat)
  case atStart => exact ⟨0, rfl, ⟨by omega, rfl, HB.out, fun _ => rfl⟩⟩
  case round =>
    obtain ⟨i, rfl, H⟩ := hrel
    have hle := H.out.1
    by_cases hlt : i < 13
    · obtain ⟨x, hx'⟩ : ∃ x, x = l.getD i 0 := ⟨_, rfl⟩
      have hx : ∀ W, (Instr.index 32 cv (.int .i64 (i : Int))).run Try.prog W = .ok (.int .i64 x) W := fun W => by
        rw [hx', HE.out]
        exact HX.out i hlt W
      have HQ0 : Aside0 (cfBad l (13 - i) i = if x < cfLeast i ∨ cfMost i < x then ((i : Int), 7) else cfBad l (12 - i) ((i : Int) + 1)) := ⟨by
        rw [show 13 - i = (12 - i) + 1 from by omega, cfBad, hx']; rfl⟩
      clear hx'
      have H0 : (0 : Int) ≤ i := by omega
      have H1 : (i : Int) < 13 := by omega
      obtain ⟨lo, hlo⟩ : ∃ lo, lo = cfLeast i := ⟨_, rfl⟩
      obtain ⟨hi, hhi⟩ : ∃ hi, hi = cfMost i := ⟨_, rfl⟩
      have hc := HC.out (i : Int) H0 H1
      rw [← hlo, ← hhi] at hc HQ0
      obtain ⟨hc1, hc2⟩ := hc
      have hl1 : wr.cell? ⟨w.heap.size + 1, i * 2, none⟩ = some (.int .i64 lo) := (H.out.2.2.2 _).trans hc1
      have hl2 : wr.cell? ⟨w.heap.size + 1, i * 2 + 1, none⟩ = some (.int .i64 hi) := (H.out.2.2.2 _).trans hc2
      clear hlo hhi hc1 hc2
      have hq := H.out.2.1
      rw [HQ0.out] at hq
      have HQ := Aside0.mk hq
      clear hq HQ0
      by_cases ha : x < lo
      · have ca : decide (x < lo) = true := decide_eq_true ha
        have hq := HQ.out
        rw [if_pos (.inl ha)] at hq
        have HR := Aside0.mk hq
        clear ha hq HQ
        go_wp2
        go_ret2
        exact ⟨by rw [← HE.out, ← HR.out]; rfl, H.out.2.2.1⟩
      · have ca : decide (x < lo) = false := decide_eq_false ha
        by_cases hb : hi < x
        · have cb : decide (hi < x) = true := decide_eq_true hb
          have hq := HQ.out
          rw [if_pos (.inr hb)] at hq
          have HR := Aside0.mk hq
          clear ha hb hq HQ
          go_wp2
          go_ret2
          exact ⟨by rw [← HE.out, ← HR.out]; rfl, H.out.2.2.1⟩
        · have cb : decide (hi < x) = false := decide_eq_false hb
          have hq := HQ.out
          rw [if_neg (by rintro (h | h) <;> omega)] at hq
          have HR := Aside0.mk hq
          clear ha hb hq HQ
          go_wp2
          go_roundw
          case rel => exact ⟨i + 1, by go_num, ⟨by omega, by rw [show 13 - (i + 1) = 12 - i from by omega]; exact HR.out, H.out.2.2.1, H.out.2.2.2⟩⟩
          case measure => simp [intOf]; omega
    · have hq := H.out.2.1
      rw [show 13 - i = 0 from by omega, cfBad] at hq
      have HR := Aside0.mk hq
      have ct : decide ((i : Int) < 13) = false := by simp; omega
      clear hq hlt hle
      go_wp2
      go_ret2
      exact ⟨by rw [← HE.out, ← HR.out]; rfl, H.out.2.2.1⟩
end Go.Proofs.Ythljanmfanppdaa.Kw
