/- What is proved: knellref24.able tells what the program's after tells. -/
import Derived.Test.YthljanmfanppdaaAb
namespace Go.Proofs.Ythljanmfanppdaa.Bk
open Go.RowKit Go.Proofs.YthljanmfanppdaaW.PrintWords Go.Proofs.Ythljanmfanppdaa.KRf
set_option linter.unusedVariables false
/-- The answer of able: the error's number, or -1. -/
def abI (q : St × Int × Bool) : Int := if q.2.2 = true then q.2.1 else -1
theorem able_any {c : Cf} {F : SM} {L : List S71} (h : Tie c F L) (A : Option Addr) (cap : Nat) (hc : L.length ≤ cap) (clk k wk op cn t dr er draw : Int) (w : World) (hr : Kd.C k71 w A L.length L) :
    Calls Try.prog 85 #[.agg (rbA c clk (.slice A L.length cap)), .agg (evA k wk op cn t dr er)] w fun e w' => e = .returned (.int .i64 (abI (afterF c F op cn t draw))) ∧ Below w.heap.size w w' := by
  obtain ⟨a, b, d, hF⟩ : ∃ a b d, F.at_ cn = (a, b, d) := ⟨_, _, _, rfl⟩
  unfold afterF
  rw [hF]
  simp only
  rw [← h.len]
  by_cases o1 : op = 1
  · by_cases ha : a = 0
    · by_cases h0 : cn ≥ 0
      · by_cases h1 : cn < (L.length : Int)
        · rw [if_pos ⟨o1, ha, h0, h1⟩]
          exact able_open h A cap hc clk k wk op cn t dr er a b d hF o1 ha h0 h1 w hr
        · rw [if_neg (fun q => h1 q.2.2.2), if_neg (by omega), if_neg (by omega), if_neg (by omega), if_neg (by omega)]
          exact able_open_no3 h A cap hc clk k wk op cn t dr er a b d hF o1 ha h0 h1 w hr
      · rw [if_neg (fun q => h0 q.2.2.1), if_neg (by omega), if_neg (by omega), if_neg (by omega), if_neg (by omega)]
        exact able_open_no2 h A cap hc clk k wk op cn t dr er a b d hF o1 ha h0 w hr
    · rw [if_neg (fun q => ha q.2.1), if_neg (by omega), if_neg (by omega), if_neg (by omega), if_neg (by omega)]
      exact able_open_no1 h A cap hc clk k wk op cn t dr er a b d hF o1 ha w hr
  rw [if_neg (fun q => o1 q.1)]
  by_cases o2 : op = 2
  · by_cases ha : a = 1
    · rw [if_pos ⟨o2, ha⟩]
      exact able_touch h A cap hc clk k wk op cn t dr er a b d hF o2 ha w hr
    · rw [if_neg (fun q => ha q.2), if_neg (by omega), if_neg (by omega), if_neg (by omega)]
      exact able_touch_no h A cap hc clk k wk op cn t dr er a b d hF o2 ha w hr
  rw [if_neg (fun q => o2 q.1)]
  by_cases o3 : op = 3
  · by_cases ha : a = 0
    · rw [if_neg (fun q => q.2 ha), if_neg (by omega), if_neg (by omega)]
      exact able_close_no h A cap hc clk k wk op cn t dr er a b d hF o3 ha w hr
    · rw [if_pos ⟨o3, ha⟩]
      exact able_close h A cap hc clk k wk op cn t dr er a b d hF o3 ha w hr
  rw [if_neg (fun q => o3 q.1)]
  by_cases o5 : op = 5
  · by_cases ha : a = 3
    · rw [if_pos ⟨o5, ha⟩]
      exact able_success h A cap hc clk k wk op cn t dr er a b d hF o5 ha w hr
    · rw [if_neg (fun q => ha q.2), if_neg (by omega)]
      exact able_success_no h A cap hc clk k wk op cn t dr er a b d hF o5 ha w hr
  rw [if_neg (fun q => o5 q.1)]
  by_cases o4 : op = 4
  · by_cases ha : a = 1
    · by_cases hb : b ≥ c.c12
      · rw [if_pos ⟨o4, .inl ha⟩, if_pos hb]
        exact able_fail1_last h A cap hc clk k wk op cn t dr er a b d hF o4 ha hb w hr
      · rw [if_pos ⟨o4, .inl ha⟩, if_neg hb]
        exact able_fail1 h A cap hc clk k wk op cn t dr er a b d hF o4 ha hb w hr
    · by_cases ha3 : a = 3
      · by_cases hb : b ≥ c.c12
        · rw [if_pos ⟨o4, .inr ha3⟩, if_pos hb]
          exact able_fail3_last h A cap hc clk k wk op cn t dr er a b d hF o4 ha3 hb w hr
        · rw [if_pos ⟨o4, .inr ha3⟩, if_neg hb]
          exact able_fail3 h A cap hc clk k wk op cn t dr er a b d hF o4 ha3 hb w hr
      · rw [if_neg (by rintro ⟨_, q | q⟩; exact ha q; exact ha3 q)]
        exact able_fail_no h A cap hc clk k wk op cn t dr er a b d hF o4 ha ha3 w hr
  rw [if_neg (fun q => o4 q.1)]
  exact able_none h A cap hc clk k wk op cn t dr er a b d hF o1 o2 o3 o4 o5 w hr
end Go.Proofs.Ythljanmfanppdaa.Bk
