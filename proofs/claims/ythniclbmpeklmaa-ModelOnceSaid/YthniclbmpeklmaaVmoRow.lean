/- What is proved: the statement ModelOnce for every input, no conditions: the row around the walk and the plain law. -/
import Derived.Test.YthniclbmpeklmaaVmo3
import Derived.Test.YthniclbmpeklmaaRows
import Derived.WalkKit
import Derived.ProofKit
import Derived.OpenShut
import Derived.ShutString
import Derived.ChangeOld
import Derived.Below
import Derived.SizedLaws
namespace Go.Proofs.Ythniclbmpeklmaa.modelOnce
open Go.ChangeShapes Go.WideShapes Go.ChangeAt Go.RowKit Go.Proofs.Ythniclbmpeklmaa.Krow
set_option linter.unusedVariables false
theorem own : ownKnob Try.prog.godebug = none := by kernel_rfl
theorem laidOut : laidOutB Try.prog = true := by kernel_rfl
theorem plain50 : plainOf Try.prog 9 50 = some [.int .i64, .int .i64, .int .i64, .int .i64, .int .i64, .int .i64, .int .i64, .int .i64, .int .i64, .int .i64, .bool, .int .i64] := by kernel_rfl
set_option maxRecDepth 100000 in
theorem lifted (os : Os) (started : os.Started) (H : Type) (enc : TypeId × Value → H) :
    ReturnsInHanded {} Try.checked os 11 .any (Rows.modelOnceSpec.pre6 enc Try.prog Try.f11 Rows.modelOnceRow.domain false) (Rows.modelOnceSpec.post enc Try.prog Try.f11 false true false false) := by
  refine returnsInHanded_of_change_sized (C := Try.checked) own started (by kernel_rfl) Try.func11
    (ChangeSpec.witness6 (enc := enc) (C := Try.checked) false ⟨#[], #[.slice none 0 0], []⟩ 8 (by kernel_rfl) (by kernel_rfl) (by kernel_rfl) (by kernel_rfl)) ?_
  intro W base args ds gs before hval0 hW hcnd hsz0 _
  have hval : ∀ (j : Nat) t v, Try.f11.params[j]? = some t → args[j]? = some v → Value.okWide Try.prog W .any base t v := hval0
  have hW' := hW
  obtain ⟨p, q, hA0, hV, rfl, hfz, hnd⟩ := hW
  have hA : DataW.TrodAll enc Try.prog W 0 (fun _ => true) true Try.f11.params.toList args.toList ds p := hA0
  rw [Try.params11] at hA hval
  obtain ⟨v0, vs0, d0, ds0, p0, q0, hargs, rfl, rfl, h0, r0⟩ := trodAll_cons hA
  obtain ⟨rfl, rfl, rfl⟩ := trodAll_nil r0
  obtain rfl : args = #[v0] := by cases args; simp_all
  obtain ⟨rfl, rfl⟩ := trodVars_none hV
  have k0 := h0
  have lt0 : ∀ x ∈ p0, x.block < W.heap.size := by obtain ⟨m, hm⟩ := k0; exact DataW.trod_lt m _ _ _ hm
  obtain ⟨A0, c0, l0, rfl, hc0, m0, hr0, g0⟩ := open_rows (KJf.k50) (fun x : KJf.S50 => (Lit.int .i64 x.f0).wf = true ∧ (Lit.int .i64 x.f1).wf = true ∧ (Lit.int .i64 x.f2).wf = true ∧ (Lit.int .i64 x.f3.f0).wf = true ∧ (Lit.int .i64 x.f3.f1).wf = true ∧ (Lit.int .i64 x.f4.f0).wf = true ∧ (Lit.int .i64 x.f4.f1).wf = true ∧ (Lit.int .i64 x.f5).wf = true ∧ (Lit.int .i64 x.f6).wf = true ∧ (Lit.int .i64 x.f7).wf = true ∧ (Lit.int .i64 x.f9).wf = true) Try.underlying22 plain50 (by kernel_rfl) rfl (by
    intro cs e
    obtain ⟨a0, x0, rfl, w0, e0⟩ := Leaves.int e
    obtain ⟨a1, x1, rfl, w1, e1⟩ := Leaves.int e0
    obtain ⟨a2, x2, rfl, w2, e2⟩ := Leaves.int e1
    obtain ⟨a3, x3, rfl, w3, e3⟩ := Leaves.int e2
    obtain ⟨a4, x4, rfl, w4, e4⟩ := Leaves.int e3
    obtain ⟨a5, x5, rfl, w5, e5⟩ := Leaves.int e4
    obtain ⟨a6, x6, rfl, w6, e6⟩ := Leaves.int e5
    obtain ⟨a7, x7, rfl, w7, e7⟩ := Leaves.int e6
    obtain ⟨a8, x8, rfl, w8, e8⟩ := Leaves.int e7
    obtain ⟨a9, x9, rfl, w9, e9⟩ := Leaves.int e8
    obtain ⟨a10, x10, rfl, e10⟩ := Leaves.boole e9
    obtain ⟨a11, x11, rfl, w11, e11⟩ := Leaves.int e10
    obtain rfl := Leaves.nil e11
    exact ⟨(⟨a0, a1, a2, ⟨a3, a4⟩, ⟨a5, a6⟩, a7, a8, a9, a10, a11⟩ : KJf.S50), KJf.k50_mk W _, w0, w1, w2, w3, w4, w5, w6, w7, w8, w9, w11⟩
    ) (hval 0 22 v0 rfl rfl) h0
  clear hA0 hval0 hsz0
  have h := KJf.ModelOnce l0 (fun x hx => by obtain ⟨_, h1, _, h2, h3, h4, h5, _⟩ := g0 x hx; simp only [Ju.wfB', KJf.toEv, h1, h2, h3, h4, h5, Bool.and_self])
  refine (KJf.knelllaw12_ModelOnce.calls _ _ l0 true W hr0 hc0 h).mono fun e W' ⟨he, bel⟩ => ?_
  subst he
  exact ⟨_, rfl, _, _, _, [], _, [], hW', trodAll_mk1 (shut_bool Try.underlying4 _), (trodAll_cons_mk (Below.trod laidOut (by kernel_rfl) (of_decide_eq_true (by kernel_rfl)) k0 bel lt0) trodAll_mk0), rfl, bel.frame _, fun h => by cases h⟩
theorem over : Rows.modelOnceRow.holds Try.pinned (OpenSpec.ofChange Rows.modelOnceSpec) :=
  OpenClaim.holds_of_wide 11 Try.f11 rfl rfl rfl rfl rfl rfl rfl ⟨rfl, rfl, rfl, rfl, rfl⟩ rfl rfl rfl rfl rfl (by kernel_rfl) Try.func11 (by kernel_rfl)
    (of_decide_eq_true (by kernel_rfl)) (by unfold Func.isWrapper; first | (rw [if_pos (by decide +kernel)]; kernel_rfl) | (rw [if_neg (by decide +kernel)]; exact ⟨rfl, rfl⟩))
    (fun os started H enc _ => lifted os started H enc)
theorem proved : Rows.ModelOnceSaid := over
#print axioms proved
end Go.Proofs.Ythniclbmpeklmaa.modelOnce
namespace Go.Proofs.Ythniclbmpeklmaa
/-- The row, under a short name, for the claim. -/
theorem modelOnce_holds : Rows.ModelOnceSaid := modelOnce.proved
end Go.Proofs.Ythniclbmpeklmaa
