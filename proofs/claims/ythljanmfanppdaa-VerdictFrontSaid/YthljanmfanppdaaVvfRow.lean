/- What is proved: the statement VerdictFront for every input, no conditions: the row around the walk and the plain law. -/
import Derived.Test.YthljanmfanppdaaVvf5
import Derived.Test.YthljanmfanppdaaRows
import Derived.WalkKit
import Derived.ProofKit
import Derived.OpenShut
import Derived.ShutString
import Derived.ChangeOld
import Derived.Below
import Derived.SizedLaws
namespace Go.Proofs.Ythljanmfanppdaa.verdictFront
open Go.ChangeShapes Go.WideShapes Go.ChangeAt Go.RowKit Go.Proofs.Ythljanmfanppdaa.Krow
set_option linter.unusedVariables false
theorem own : ownKnob Try.prog.godebug = none := by kernel_rfl
theorem laidOut : laidOutB Try.prog = true := by kernel_rfl
theorem plain33 : plainOf Try.prog 9 33 = some [.int .i64, .int .i64, .int .i64, .int .i64, .int .i64, .int .i64, .int .i64, .int .i64, .int .i64, .int .i64, .int .i64, .int .i64, .int .i64] := by kernel_rfl
theorem plain54 : plainOf Try.prog 9 54 = some [.int .i64, .int .i64, .int .i64, .int .i64, .int .i64, .int .i64, .int .i64] := by kernel_rfl
set_option maxRecDepth 100000 in
theorem lifted (os : Os) (started : os.Started) (H : Type) (enc : TypeId × Value → H) :
    ReturnsInHanded {} Try.checked os 12 .any (Rows.verdictFrontSpec.pre6 enc Try.prog Try.f12 Rows.verdictFrontRow.domain false) (Rows.verdictFrontSpec.post enc Try.prog Try.f12 false true false false) := by
  refine returnsInHanded_of_change_sized (C := Try.checked) own started (by kernel_rfl) Try.func12
    (ChangeSpec.witness6 (enc := enc) (C := Try.checked) false ⟨#[], #[.agg #[.int .i64 0, .int .i64 0, .int .i64 0, .int .i64 0, .int .i64 0, .int .i64 0, .int .i64 0, .int .i64 0, .int .i64 0, .int .i64 0, .int .i64 0, .int .i64 0, .int .i64 0], .slice none 0 0, .int .u8 0], []⟩ 8 (by kernel_rfl) (by kernel_rfl) (by kernel_rfl) (by kernel_rfl)) ?_
  intro W base args ds gs before hval0 hW hcnd hsz0 _
  have hval : ∀ (j : Nat) t v, Try.f12.params[j]? = some t → args[j]? = some v → Value.okWide Try.prog W .any base t v := hval0
  have hW' := hW
  obtain ⟨p, q, hA0, hV, rfl, hfz, hnd⟩ := hW
  have hA : DataW.TrodAll enc Try.prog W 0 (fun _ => true) true Try.f12.params.toList args.toList ds p := hA0
  rw [Try.params12] at hA hval
  obtain ⟨v0, vs0, d0, ds0, p0, q0, hargs, rfl, rfl, h0, r0⟩ := trodAll_cons hA
  obtain ⟨v1, vs1, d1, ds1, p1, q1, rfl, rfl, rfl, h1, r1⟩ := trodAll_cons r0
  obtain ⟨v2, vs2, d2, ds2, p2, q2, rfl, rfl, rfl, h2, r2⟩ := trodAll_cons r1
  obtain ⟨rfl, rfl, rfl⟩ := trodAll_nil r2
  obtain rfl : args = #[v0, v1, v2] := by cases args; simp_all
  obtain ⟨rfl, rfl⟩ := trodVars_none hV
  have k0 := h0
  have lt0 : ∀ x ∈ p0, x.block < W.heap.size := by obtain ⟨m, hm⟩ := k0; exact DataW.trod_lt m _ _ _ hm
  obtain ⟨cs0, rfl, e0⟩ := open_plain plain33 (by rw [Try.underlying33]) (hval 0 33 v0 rfl rfl) h0
  obtain ⟨a0_0, x0_0, rfl, w0_0, e0_0⟩ := Leaves.int e0
  obtain ⟨a0_1, x0_1, rfl, w0_1, e0_1⟩ := Leaves.int e0_0
  obtain ⟨a0_2, x0_2, rfl, w0_2, e0_2⟩ := Leaves.int e0_1
  obtain ⟨a0_3, x0_3, rfl, w0_3, e0_3⟩ := Leaves.int e0_2
  obtain ⟨a0_4, x0_4, rfl, w0_4, e0_4⟩ := Leaves.int e0_3
  obtain ⟨a0_5, x0_5, rfl, w0_5, e0_5⟩ := Leaves.int e0_4
  obtain ⟨a0_6, x0_6, rfl, w0_6, e0_6⟩ := Leaves.int e0_5
  obtain ⟨a0_7, x0_7, rfl, w0_7, e0_7⟩ := Leaves.int e0_6
  obtain ⟨a0_8, x0_8, rfl, w0_8, e0_8⟩ := Leaves.int e0_7
  obtain ⟨a0_9, x0_9, rfl, w0_9, e0_9⟩ := Leaves.int e0_8
  obtain ⟨a0_10, x0_10, rfl, w0_10, e0_10⟩ := Leaves.int e0_9
  obtain ⟨a0_11, x0_11, rfl, w0_11, e0_11⟩ := Leaves.int e0_10
  obtain ⟨a0_12, x0_12, rfl, w0_12, e0_12⟩ := Leaves.int e0_11
  obtain rfl := Leaves.nil e0_12
  have k1 := h1
  have lt1 : ∀ x ∈ p1, x.block < W.heap.size := by obtain ⟨m, hm⟩ := k1; exact DataW.trod_lt m _ _ _ hm
  obtain ⟨A1, c1, l1, rfl, hc1, m1, hr1, g1⟩ := open_rows (KLa.k54) (fun x : KLa.S54 => (Lit.int .i64 x.f0).wf = true ∧ (Lit.int .i64 x.f1).wf = true ∧ (Lit.int .i64 x.f2).wf = true ∧ (Lit.int .i64 x.f3).wf = true ∧ (Lit.int .i64 x.f4).wf = true ∧ (Lit.int .i64 x.f5).wf = true ∧ (Lit.int .i64 x.f6).wf = true) Try.underlying48 plain54 (by kernel_rfl) rfl (by
    intro cs e
    obtain ⟨a0, x0, rfl, w0, e0⟩ := Leaves.int e
    obtain ⟨a1, x1, rfl, w1, e1⟩ := Leaves.int e0
    obtain ⟨a2, x2, rfl, w2, e2⟩ := Leaves.int e1
    obtain ⟨a3, x3, rfl, w3, e3⟩ := Leaves.int e2
    obtain ⟨a4, x4, rfl, w4, e4⟩ := Leaves.int e3
    obtain ⟨a5, x5, rfl, w5, e5⟩ := Leaves.int e4
    obtain ⟨a6, x6, rfl, w6, e6⟩ := Leaves.int e5
    obtain rfl := Leaves.nil e6
    exact ⟨(⟨a0, a1, a2, a3, a4, a5, a6⟩ : KLa.S54), KLa.k54_mk W _, w0, w1, w2, w3, w4, w5, w6⟩
    ) (hval 1 48 v1 rfl rfl) h1
  obtain ⟨a2, rfl, rfl, rfl, w2⟩ := open_int Try.underlying5 (hval 2 5 v2 rfl rfl) h2
  clear hA0 hval0 hsz0
  have h := KLa.VerdictFront a0_0 a0_1 a0_2 a0_3 a0_4 a0_5 a0_6 a0_7 a0_8 a0_9 a0_10 a0_11 a0_12  l1 a2 (fun x hx => ⟨(g1 x hx).2.2.2.1, (g1 x hx).2.1⟩) w2
  refine (KLa.knelllaw25_VerdictFront.calls a0_0 a0_1 a0_2 a0_3 a0_4 a0_5 a0_6 a0_7 a0_8 a0_9 a0_10 a0_11 a0_12 _ _ l1 a2 true W hr1 hc1 h).mono fun e W' ⟨he, bel⟩ => ?_
  subst he
  exact ⟨_, rfl, _, _, _, [], _, [], hW', trodAll_mk1 (shut_bool Try.underlying4 _), (trodAll_cons_mk (Below.trod laidOut (by kernel_rfl) (of_decide_eq_true (by kernel_rfl)) k0 bel lt0) (trodAll_cons_mk (Below.trod laidOut (by kernel_rfl) (of_decide_eq_true (by kernel_rfl)) k1 bel lt1) (trodAll_cons_mk (shut_int Try.underlying5 w2) trodAll_mk0))), rfl, bel.frame _, fun h => by cases h⟩
theorem over : Rows.verdictFrontRow.holds Try.pinned (OpenSpec.ofChange Rows.verdictFrontSpec) :=
  OpenClaim.holds_of_wide 12 Try.f12 rfl rfl rfl rfl rfl rfl rfl ⟨rfl, rfl, rfl, rfl, rfl⟩ rfl rfl rfl rfl rfl (by kernel_rfl) Try.func12 (by kernel_rfl)
    (of_decide_eq_true (by kernel_rfl)) (by unfold Func.isWrapper; first | (rw [if_pos (by decide +kernel)]; kernel_rfl) | (rw [if_neg (by decide +kernel)]; exact ⟨rfl, rfl⟩))
    (fun os started H enc _ => lifted os started H enc)
theorem proved : Rows.VerdictFrontSaid := over
#print axioms proved
end Go.Proofs.Ythljanmfanppdaa.verdictFront
namespace Go.Proofs.Ythljanmfanppdaa
/-- The row, under a short name, for the claim. -/
theorem verdictFront_holds : Rows.VerdictFrontSaid := verdictFront.proved
end Go.Proofs.Ythljanmfanppdaa
