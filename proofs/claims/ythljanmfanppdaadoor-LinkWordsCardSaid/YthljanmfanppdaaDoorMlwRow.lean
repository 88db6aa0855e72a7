/- What is proved: the statement LinkWords for every input, no conditions: the row around the walk and the plain law. -/
import Derived.Test.YthljanmfanppdaaDoorMlw4
import Derived.Test.YthljanmfanppdaaDoorRows
import Derived.WalkKit
import Derived.ProofKit
import Derived.OpenShut
import Derived.ShutString
import Derived.ChangeOld
import Derived.Below
import Derived.SizedLaws
import Derived.Test.YthljanmfanppdaaDoorTie
import Derived.Test.YthljanmfanppdaaDoorCards
import Derived.Lay
import Derived.Handed
import Derived.SevenTiedAt
namespace Go.Proofs.YthljanmfanppdaaDoor.linkWords
open Go.ChangeShapes Go.WideShapes Go.ChangeAt Go.RowKit Go.Proofs.YthljanmfanppdaaDoor.Krow
set_option linter.unusedVariables false
theorem own : ownKnob Tryd.prog.godebug = none := by kernel_rfl
theorem laidOut : laidOutB Tryd.prog = true := by kernel_rfl
theorem plain23 : plainOf Tryd.prog 9 23 = some [.int .i64, .int .i64, .int .i64, .int .i64, .int .i64, .int .i64, .int .i64] := by kernel_rfl
set_option maxRecDepth 100000 in
theorem lifted (os : Os) (started : os.Started) (H : Type) (enc : TypeId × Value → H) :
    ReturnsInHanded {} Tryd.checked os 3 .any (fun w args => (Rows.linkWordsSpec.pre enc Tryd.prog Tryd.f3 [] false w args ∧ laidMet Tryd.prog Rows.linkWordsRow.laid w) ∧ sizedMet enc Tryd.prog Tryd.f3 (OpenSpec.ofChange Rows.linkWordsSpec) false w args) (Rows.linkWordsSpec.post enc Tryd.prog Tryd.f3 false true false false) := by
  refine returnsInHanded_of_change_and (C := Tryd.checked) (X := (fun w _ => laidMet Tryd.prog Rows.linkWordsRow.laid w)) (fun _ _ _ hh h => h.of_heap hh) own started (by kernel_rfl) Tryd.func3
    (ChangeSpec.witness_at (enc := enc) (C := Tryd.checked) (os := os) (X := (fun w _ => laidMet Tryd.prog Rows.linkWordsRow.laid w)) false (World.laidAll Tryd.prog os Rows.linkWordsRow.laid) #[.agg #[.int .i64 0, .int .i64 0, .int .i64 0, .int .i64 0, .int .i64 0, .int .i64 0, .int .i64 0], .agg #[.int .i64 0, .int .i64 0, .int .i64 0, .int .i64 0, .int .i64 0, .int .i64 0, .int .i64 0]] 8 (World.laidAll_os _ _ _) (by kernel_rfl) (by kernel_rfl) (by kernel_rfl) (by kernel_rfl) (by kernel_rfl) (laidMet_laidAll _ (by kernel_rfl) (by kernel_rfl))) ?_
  intro W base args ds gs before hval0 hW hcnd hsz0 hL _
  have htab := Go.Proofs.YthljanmfanppdaaDoor.Lw.tab_of_laid hL
  have hval : ∀ (j : Nat) t v, Tryd.f3.params[j]? = some t → args[j]? = some v → Value.okWide Tryd.prog W .any base t v := hval0
  have hW' := hW
  obtain ⟨p, q, hA0, hV, rfl, hfz, hnd⟩ := hW
  have hA : DataW.TrodAll enc Tryd.prog W 0 (fun _ => true) true Tryd.f3.params.toList args.toList ds p := hA0
  rw [Tryd.params3] at hA hval
  obtain ⟨v0, vs0, d0, ds0, p0, q0, hargs, rfl, rfl, h0, r0⟩ := trodAll_cons hA
  obtain ⟨v1, vs1, d1, ds1, p1, q1, rfl, rfl, rfl, h1, r1⟩ := trodAll_cons r0
  obtain ⟨rfl, rfl, rfl⟩ := trodAll_nil r1
  obtain rfl : args = #[v0, v1] := by cases args; simp_all
  obtain ⟨rfl, rfl⟩ := trodVars_none hV
  have k0 := h0
  have lt0 : ∀ x ∈ p0, x.block < W.heap.size := by obtain ⟨m, hm⟩ := k0; exact DataW.trod_lt m _ _ _ hm
  obtain ⟨cs0, rfl, e0⟩ := open_plain plain23 (by rw [Tryd.underlying23]) (hval 0 23 v0 rfl rfl) h0
  obtain ⟨a0_0, x0_0, rfl, w0_0, e0_0⟩ := Leaves.int e0
  obtain ⟨a0_1, x0_1, rfl, w0_1, e0_1⟩ := Leaves.int e0_0
  obtain ⟨a0_2, x0_2, rfl, w0_2, e0_2⟩ := Leaves.int e0_1
  obtain ⟨a0_3, x0_3, rfl, w0_3, e0_3⟩ := Leaves.int e0_2
  obtain ⟨a0_4, x0_4, rfl, w0_4, e0_4⟩ := Leaves.int e0_3
  obtain ⟨a0_5, x0_5, rfl, w0_5, e0_5⟩ := Leaves.int e0_4
  obtain ⟨a0_6, x0_6, rfl, w0_6, e0_6⟩ := Leaves.int e0_5
  obtain rfl := Leaves.nil e0_6
  have k1 := h1
  have lt1 : ∀ x ∈ p1, x.block < W.heap.size := by obtain ⟨m, hm⟩ := k1; exact DataW.trod_lt m _ _ _ hm
  obtain ⟨cs1, rfl, e1⟩ := open_plain plain23 (by rw [Tryd.underlying23]) (hval 1 23 v1 rfl rfl) h1
  obtain ⟨a1_0, x1_0, rfl, w1_0, e1_0⟩ := Leaves.int e1
  obtain ⟨a1_1, x1_1, rfl, w1_1, e1_1⟩ := Leaves.int e1_0
  obtain ⟨a1_2, x1_2, rfl, w1_2, e1_2⟩ := Leaves.int e1_1
  obtain ⟨a1_3, x1_3, rfl, w1_3, e1_3⟩ := Leaves.int e1_2
  obtain ⟨a1_4, x1_4, rfl, w1_4, e1_4⟩ := Leaves.int e1_3
  obtain ⟨a1_5, x1_5, rfl, w1_5, e1_5⟩ := Leaves.int e1_4
  obtain ⟨a1_6, x1_6, rfl, w1_6, e1_6⟩ := Leaves.int e1_5
  obtain rfl := Leaves.nil e1_6
  clear hA0 hval0 hsz0
  obtain ⟨k, h⟩ := KLw.LinkWords a0_0 a0_1 a0_2 a0_3 a0_4 a0_5 a0_6 a1_0 a1_1 a1_2 a1_3 a1_4 a1_5 a1_6 w0_1 w0_3 w0_4 w0_5 w0_6 w1_1 w1_3 w1_4 w1_5 w1_6
  refine (KLw.knelllaw24_LinkWords.calls k a0_0 a0_1 a0_2 a0_3 a0_4 a0_5 a0_6 a1_0 a1_1 a1_2 a1_3 a1_4 a1_5 a1_6 true W  htab h).mono fun e W' ⟨he, bel⟩ => ?_
  subst he
  exact ⟨_, rfl, _, _, _, [], _, [], hW', trodAll_mk1 (shut_bool Tryd.underlying4 _), (trodAll_cons_mk (Below.trod laidOut (by kernel_rfl) (of_decide_eq_true (by kernel_rfl)) k0 bel lt0) (trodAll_cons_mk (Below.trod laidOut (by kernel_rfl) (of_decide_eq_true (by kernel_rfl)) k1 bel lt1) trodAll_mk0)), rfl, bel.frame _, fun h => by cases h⟩
theorem over : Rows.linkWordsRow.holds Tryd.pinned (OpenSpec.ofChange Rows.linkWordsSpec) :=
  OpenClaim.holds_of_wide 3 Tryd.f3 rfl rfl rfl rfl rfl rfl rfl ⟨rfl, rfl, rfl, rfl, rfl⟩ rfl rfl rfl rfl rfl (by kernel_rfl) Tryd.func3 (by kernel_rfl)
    (of_decide_eq_true (by kernel_rfl)) (by unfold Func.isWrapper; first | (rw [if_pos (by decide +kernel)]; kernel_rfl) | (rw [if_neg (by decide +kernel)]; exact ⟨rfl, rfl⟩))
    (fun os started H enc _ => lifted os started H enc)
theorem proved : Rows.LinkWordsSaid := over
theorem card : Rows.LinkWordsCardSaid :=
  Claim7.holds_tied_plain_at .later [] [.data, .data, .data] true (true, "3668a7f8c3ba83d5fc692697b5383d0dbb5ac9f546683251ca6fa48e6168bfb2") false
    proved (fun _ h => by cases h) (by kernel_rfl) (fun _ h => by cases h) linkWords_row_tie rfl ⟨rfl, rfl⟩ (by kernel_rfl) rfl
    (fun f fn hf hfn => by
      obtain rfl : f = 3 := Option.some.inj ((show Tryd.prog.funcNamed "knell/knelllaw24.LinkWords" = some 3 by kernel_rfl).symm.trans hf) |>.symm
      obtain rfl : fn = Tryd.f3 := (Option.some.inj (Tryd.func3.symm.trans hfn)).symm
      exact ⟨by kernel_rfl, fun j t ht => by
        rw [Tryd.params3] at ht
        rcases j with _ | j
        · obtain rfl : 23 = t := by simpa using ht
          exact (show Tryd.prog.wantsStandIn 23 = false by kernel_rfl)
        rcases j with _ | j
        · obtain rfl : 23 = t := by simpa using ht
          exact (show Tryd.prog.wantsStandIn 23 = false by kernel_rfl)
        simp at ht⟩)
    (by kernel_rfl)
#print axioms card
end Go.Proofs.YthljanmfanppdaaDoor.linkWords
namespace Go.Proofs.YthljanmfanppdaaDoor
/-- The card, under a short name, for the claim. -/
theorem linkWords_holds : Rows.LinkWordsCardSaid := linkWords.card
end Go.Proofs.YthljanmfanppdaaDoor
