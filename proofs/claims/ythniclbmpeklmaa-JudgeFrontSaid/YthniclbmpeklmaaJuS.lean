/- What is proved: the example that stands ahead of each statement of a judge comes to true; a judge's answer as printed functions take it. -/
import Derived.Test.YthniclbmpeklmaaJuG
namespace Go.Proofs.Ythniclbmpeklmaa.Ju
open Go.RowKit Go.Maps Go.Proofs.YthniclbmpeklmaaW.PrintWords Go.Proofs.YthniclbmpeklmaaW.PrintLast Go.Proofs.YthniclbmpeklmaaW.PrintMore Go.Proofs.Ythniclbmpeklmaa.Mp Go.Proofs.Ythniclbmpeklmaa.Au
set_option linter.unusedVariables false
set_option linter.unusedSimpArgs false
def spE : Ev := ⟨5, 0, 5, 0, 0, 0, 0, 0, 0, 0, false, 0⟩
theorem sp_hear : (hearF (be0 1) spE).2 = 6 := by decide
set_option maxHeartbeats 4000000 in
set_option maxRecDepth 100000 in
theorem speaks_any (w : World) : Calls Try.prog 25 #[] w fun r w' => r = .returned (.bool true) ∧ Below w.heap.size w w' := by
  have CN := Aside0.mk (judge_new 1 (by omega) w)
  go_enter Try.func25, Try.ntmps25
  go_wp2_with (first
    | (go_at_call 26; (with_reducible refine CN.out.mono ?_); rintro r w2 ⟨b, mb, m1, m2, m3, rfl, hbe, hb⟩; have HB := Aside0.mk (And.intro hbe hb); have CH := Aside0.mk (show Calls Try.prog 29 #[pA b, .agg #[.int .i64 5, .int .i64 0, .int .i64 5, .int .i64 0, .int .i64 0, .int .i64 0, .int .i64 0, .int .i64 0, .int .i64 0, .int .i64 0, .bool false, .int .i64 0]] w2 fun r w' => r = .returned (.int .i64 6) ∧ Below w.heap.size w w' from (hear_any spE (by decide) (by decide) (by omega) (fun x => by rfl) hbe hb.size).mono fun r w' h => ⟨by rw [h.1, sp_hear], hb.trans h.2.2⟩); clear hbe hb)
    | (go_at_call 29; (with_reducible refine CH.out.mono ?_); rintro r w3 ⟨rfl, hb⟩; have HB3 := Aside0.mk hb; clear hb))
  go_ret
  exact ⟨rfl, HB3.out⟩
/-- Do an event's numbers fit? -/
def wfB' (e : Ev) : Bool := (Lit.int .i64 e.wk).wf && (Lit.int .i64 e.hn).wf && (Lit.int .i64 e.hg).wf && (Lit.int .i64 e.nn).wf && (Lit.int .i64 e.ng).wf
theorem wfJ_of {e : Ev} (h : wfB' e = true) : wfJ e := by
  simp only [wfB', Bool.and_eq_true] at h
  exact ⟨⟨h.1.1.1.2, h.1.1.2, h.1.2, h.2⟩, h.1.1.1.1⟩
end Go.Proofs.Ythniclbmpeklmaa.Ju
