/- What is proved: knelllaw24.LinkTimes returns true; connections' numbers fit into 64 bits. -/
import Derived.Test.YthljanmfanppdaaLu
namespace Go.Proofs.Ythljanmfanppdaa.KLa
open Go.RowKit Go.Proofs.YthljanmfanppdaaW.PrintWords Go.Proofs.Ythljanmfanppdaa.Bk
set_option linter.unusedVariables false
/-- What the law answers; said only where connections' numbers fit. -/
def knelllaw24_LinkTimes.f (c0 c1 c2 c3 c4 c5 c6 c7 c8 c9 c10 c11 c12 : Int) (l1 : List S54) (l2 : List Int) : Option Bool := if ∀ x ∈ l1, (Lit.int .i64 x.f3).wf = true then some true else none
theorem rd_wf {l : List S54} (h : ∀ x ∈ l, (Lit.int .i64 x.f3).wf = true) (i : Int) : (Lit.int .i64 (rd_T54 l i).f3).wf = true := by
  unfold rd_T54
  by_cases hi : i.toNat < l.length
  · rw [List.getD_eq_getElem?_getD, List.getElem?_eq_getElem hi]
    exact h _ (List.getElem_mem hi)
  · rw [List.getD_eq_getElem?_getD, List.getElem?_eq_none (by omega)]
    decide
theorem knelllaw24_LinkTimes.calls (c0 c1 c2 c3 c4 c5 c6 c7 c8 c9 c10 c11 c12 : Int) (A1 : Option Addr) (q1 : Nat) (l1 : List S54) (A2 : Option Addr) (q2 : Nat) (l2 : List Int) (r : Bool) (w : World) (hr1 : Kd.C k54 w A1 l1.length l1) (hc1 : l1.length ≤ q1) (hr2 : Kd.C (Kd.int .i64) w A2 l2.length l2) (hc2 : l2.length ≤ q2)
    (h : knelllaw24_LinkTimes.f c0 c1 c2 c3 c4 c5 c6 c7 c8 c9 c10 c11 c12 l1 l2 = some r) :
    Calls Try.prog 8 #[.agg #[.int .i64 c0, .int .i64 c1, .int .i64 c2, .int .i64 c3, .int .i64 c4, .int .i64 c5, .int .i64 c6, .int .i64 c7, .int .i64 c8, .int .i64 c9, .int .i64 c10, .int .i64 c11, .int .i64 c12], .slice A1 l1.length q1, .slice A2 l2.length q2] w fun e w' => e = .returned (.bool r) ∧ Below w.heap.size w w' := by
  unfold knelllaw24_LinkTimes.f at h
  split at h
  · rename_i hw
    obtain rfl := Option.some.inj h
    rcases Nat.lt_or_ge 60 l1.length with hn | hn
    · exact times_long ⟨c0, c1, c2, c3, c4, c5, c6, c7, c8, c9, c10, c11, c12⟩ A1 _ q1 A2 _ q2 hn w
    · cases hc : (cfCode ⟨c0, c1, c2, c3, c4, c5, c6, c7, c8, c9, c10, c11, c12⟩ == 0) with
      | false => exact times_wrong ⟨c0, c1, c2, c3, c4, c5, c6, c7, c8, c9, c10, c11, c12⟩ A1 _ q1 A2 _ q2 hn hc w
      | true => exact times_main ⟨c0, c1, c2, c3, c4, c5, c6, c7, c8, c9, c10, c11, c12⟩ A1 q1 l1 A2 q2 l2 hn hc w hr1 hr2 (rd_wf hw)
  · cases h
theorem LinkTimes (c0 c1 c2 c3 c4 c5 c6 c7 c8 c9 c10 c11 c12 : Int) (l1 : List S54) (l2 : List Int) (hw : ∀ x ∈ l1, (Lit.int .i64 x.f3).wf = true) : knelllaw24_LinkTimes.f c0 c1 c2 c3 c4 c5 c6 c7 c8 c9 c10 c11 c12 l1 l2 = some true := if_pos hw
end Go.Proofs.Ythljanmfanppdaa.KLa
