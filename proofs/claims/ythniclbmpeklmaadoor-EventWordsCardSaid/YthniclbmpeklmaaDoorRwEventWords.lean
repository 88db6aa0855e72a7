/- What is proved: the statement EventWords for every input, no conditions: the row around the walk and the plain law. -/
import Derived.Test.YthniclbmpeklmaaDoorRows
import Derived.Test.YthniclbmpeklmaaDoorMEv
import Derived.WalkKit
import Derived.ProofKit
import Derived.OpenShut
import Derived.ShutString
import Derived.ChangeOld
import Derived.Below
import Derived.SizedLaws
import Derived.Test.YthniclbmpeklmaaDoorTie
import Derived.Test.YthniclbmpeklmaaDoorCards
import Derived.Lay
import Derived.Handed
import Derived.SevenTiedAt
namespace Go.Proofs.YthniclbmpeklmaaDoor.eventWords
open Go.ChangeShapes Go.WideShapes Go.ChangeAt Go.RowKit Go.Proofs.YthniclbmpeklmaaDoor.Krow
set_option linter.unusedVariables false
theorem own : ownKnob Tryd.prog.godebug = none := by kernel_rfl
theorem laidOut : laidOutB Tryd.prog = true := by kernel_rfl
theorem plain25 : plainOf Tryd.prog 9 25 = some [.int .i64, .int .i64, .int .i64, .int .i64, .int .i64, .int .i64, .int .i64, .int .i64, .int .i64, .int .i64, .bool, .int .i64] := by kernel_rfl
set_option maxRecDepth 100000 in
theorem lifted (os : Os) (started : os.Started) (H : Type) (enc : TypeId × Value → H) :
    ReturnsInHanded {} Tryd.checked os 5 .any (fun w args => (Rows.eventWordsSpec.pre enc Tryd.prog Tryd.f5 [] false w args ∧ laidMet Tryd.prog Rows.eventWordsRow.laid w) ∧ sizedMet enc Tryd.prog Tryd.f5 (OpenSpec.ofChange Rows.eventWordsSpec) false w args) (Rows.eventWordsSpec.post enc Tryd.prog Tryd.f5 false true false false) := by
  refine returnsInHanded_of_change_and (C := Tryd.checked) (X := (fun w _ => laidMet Tryd.prog Rows.eventWordsRow.laid w)) (fun _ _ _ hh h => h.of_heap hh) own started (by kernel_rfl) Tryd.func5
    (ChangeSpec.witness_at (enc := enc) (C := Tryd.checked) (os := os) (X := (fun w _ => laidMet Tryd.prog Rows.eventWordsRow.laid w)) false (World.laidAll Tryd.prog os Rows.eventWordsRow.laid) #[.agg #[.int .i64 0, .int .i64 0, .int .i64 0, .int .i64 0, .int .i64 0, .int .i64 0, .int .i64 0, .int .i64 0, .int .i64 0, .int .i64 0, .bool false, .int .i64 0]] 8 (World.laidAll_os _ _ _) (by kernel_rfl) (by kernel_rfl) (by kernel_rfl) (by kernel_rfl) (by kernel_rfl) (laidMet_laidAll _ (by kernel_rfl) (by kernel_rfl))) ?_
  intro W base args ds gs before hval0 hW hcnd hsz0 hL _
  have htab := Go.Proofs.YthniclbmpeklmaaDoor.Ev.tab_of_laid hL
  have hval : ∀ (j : Nat) t v, Tryd.f5.params[j]? = some t → args[j]? = some v → Value.okWide Tryd.prog W .any base t v := hval0
  have hW' := hW
  obtain ⟨p, q, hA0, hV, rfl, hfz, hnd⟩ := hW
  have hA : DataW.TrodAll enc Tryd.prog W 0 (fun _ => true) true Tryd.f5.params.toList args.toList ds p := hA0
  rw [Tryd.params5] at hA hval
  obtain ⟨v0, vs0, d0, ds0, p0, q0, hargs, rfl, rfl, h0, r0⟩ := trodAll_cons hA
  obtain ⟨rfl, rfl, rfl⟩ := trodAll_nil r0
  obtain rfl : args = #[v0] := by cases args; simp_all
  obtain ⟨rfl, rfl⟩ := trodVars_none hV
  have k0 := h0
  have lt0 : ∀ x ∈ p0, x.block < W.heap.size := by obtain ⟨m, hm⟩ := k0; exact DataW.trod_lt m _ _ _ hm
  obtain ⟨cs0, rfl, e0⟩ := open_plain plain25 (by rw [Tryd.underlying25]) (hval 0 25 v0 rfl rfl) h0
  obtain ⟨a0_0, x0_0, rfl, w0_0, e0_0⟩ := Leaves.int e0
  obtain ⟨a0_1, x0_1, rfl, w0_1, e0_1⟩ := Leaves.int e0_0
  obtain ⟨a0_2, x0_2, rfl, w0_2, e0_2⟩ := Leaves.int e0_1
  obtain ⟨a0_3, x0_3, rfl, w0_3, e0_3⟩ := Leaves.int e0_2
  obtain ⟨a0_4, x0_4, rfl, w0_4, e0_4⟩ := Leaves.int e0_3
  obtain ⟨a0_5, x0_5, rfl, w0_5, e0_5⟩ := Leaves.int e0_4
  obtain ⟨a0_6, x0_6, rfl, w0_6, e0_6⟩ := Leaves.int e0_5
  obtain ⟨a0_7, x0_7, rfl, w0_7, e0_7⟩ := Leaves.int e0_6
  obtain ⟨a0_8, x0_8, rfl, w0_8, e0_8⟩ := Leaves.int e0_7
  obtain ⟨a0_9, x0_9, rfl, w0_9, e0_9⟩ := Leaves.int e0_8
  obtain ⟨a0_10, x0_10, rfl, e0_10⟩ := Leaves.boole e0_9
  obtain ⟨a0_11, x0_11, rfl, w0_11, e0_11⟩ := Leaves.int e0_10
  obtain rfl := Leaves.nil e0_11
  clear hA0 hval0 hsz0
  obtain ⟨k, h⟩ := KEvP.EventWords a0_0 a0_1 a0_2 a0_3 a0_4 a0_5 a0_6 a0_7 a0_8 a0_9 a0_10 a0_11 (KEvP.fit_of w0_1 w0_3 w0_4 w0_5 w0_6 w0_7 w0_8 w0_9 w0_11)
  refine (KEv.knelllaw11_EventWords.calls k a0_0 a0_1 a0_2 a0_3 a0_4 a0_5 a0_6 a0_7 a0_8 a0_9 a0_10 a0_11 true W  htab h).mono fun e W' ⟨he, bel⟩ => ?_
  subst he
  exact ⟨_, rfl, _, _, _, [], _, [], hW', trodAll_mk1 (shut_bool Tryd.underlying4 _), (trodAll_cons_mk (Below.trod laidOut (by kernel_rfl) (of_decide_eq_true (by kernel_rfl)) k0 bel lt0) trodAll_mk0), rfl, bel.frame _, fun h => by cases h⟩
theorem over : Rows.eventWordsRow.holds Tryd.pinned (OpenSpec.ofChange Rows.eventWordsSpec) :=
  OpenClaim.holds_of_wide 5 Tryd.f5 rfl rfl rfl rfl rfl rfl rfl ⟨rfl, rfl, rfl, rfl, rfl⟩ rfl rfl rfl rfl rfl (by kernel_rfl) Tryd.func5 (by kernel_rfl)
    (of_decide_eq_true (by kernel_rfl)) (by unfold Func.isWrapper; first | (rw [if_pos (by decide +kernel)]; kernel_rfl) | (rw [if_neg (by decide +kernel)]; exact ⟨rfl, rfl⟩))
    (fun os started H enc _ => lifted os started H enc)
theorem proved : Rows.EventWordsSaid := over
theorem card : Rows.EventWordsCardSaid :=
  Claim7.holds_tied_plain_at .later [] [.data, .data, .data] true (true, "18a02743491415a075901cd5e0e73282cf8b4c112ba9b51c69dba7fe02fc066b") false
    proved (fun _ h => by cases h) (by kernel_rfl) (fun _ h => by cases h) eventWords_row_tie rfl ⟨rfl, rfl⟩ (by kernel_rfl) rfl
    (fun f fn hf hfn => by
      obtain rfl : f = 5 := Option.some.inj ((show Tryd.prog.funcNamed "knell/knelllaw11.EventWords" = some 5 by kernel_rfl).symm.trans hf) |>.symm
      obtain rfl : fn = Tryd.f5 := (Option.some.inj (Tryd.func5.symm.trans hfn)).symm
      exact ⟨by kernel_rfl, fun j t ht => by
        rw [Tryd.params5] at ht
        rcases j with _ | j
        · obtain rfl : 25 = t := by simpa using ht
          exact (show Tryd.prog.wantsStandIn 25 = false by kernel_rfl)
        simp at ht⟩)
    (by kernel_rfl)
#print axioms card
end Go.Proofs.YthniclbmpeklmaaDoor.eventWords
namespace Go.Proofs.YthniclbmpeklmaaDoor
/-- The card, under a short name, for the claim. -/
theorem eventWords_holds : Rows.EventWordsCardSaid := eventWords.card
end Go.Proofs.YthniclbmpeklmaaDoor
