/- What is proved: the walk's steps at a map that is read as a function: look-up, look-up with the second answer, store, delete, length; for every program and key type that has the kit's law. -/
import Derived.Test.YthniclbmpeklmaaMp
import Derived.Maps.OwnOps
namespace Go.Proofs.Ythniclbmpeklmaa.Mp
open Go.RowKit Go.Maps
set_option linter.unusedSectionVars false
section
variable {κ : Type} [DecidableEq κ] {c : κ → Value} {P : Program} {k t e : TypeId} {w : World} {b s : Nat} {f : κ → Option Value}
variable {ops : Array Oper} {rest : List Oper} {o : Oper} {a : Act} {Q : Exit → Act → World → Prop}
theorem wpl_look (hg : o.guard = none) (m x : Operand) (t : TypeId) (hop : o.op = Op.lookup t m x false) (h : MapIs c P k w b s f) (K : Keyed P k) (ht : P.underlying t = some (.map k e)) {z : Value} (hz : (zeroValue e).run P w = .ok z w) {y : κ} {kl : Lit} (hkey : keyOf P k (c y) = some kl)
    (hm : a.eval m = .map (some b)) (hx : a.eval x = c y) (hK : wpList P ops Q rest (a.put o.dst ((f y).getD z)) w) : wpList P ops Q (o :: rest) a w := by
  refine wpList_plain hg fun K' hK' => ?_
  have hrun := h.look K ht hz hkey
  unfold Oper.wp
  simp [execOp, hop, hm, hx, hrun, Result.andThen]
  exact hK' _ _ hK
theorem wpl_look_v (hg : o.guard = none) (m x : Operand) (t : TypeId) (hop : o.op = Op.lookup t m x false) (h : MapIs c P k w b s f) (K : Keyed P k) (ht : P.underlying t = some (.map k e)) {z : Value} (hz : (zeroValue e).run P w = .ok z w) {y : κ} {kl : Lit} (hkey : keyOf P k (c y) = some kl)
    (hm : a.eval m = .map (some b)) (hx : a.eval x = c y) {v : Value} (hv : (f y).getD z = v) (hK : wpList P ops Q rest (a.put o.dst v) w) : wpList P ops Q (o :: rest) a w := by
  subst hv
  exact wpl_look hg m x t hop h K ht hz hkey hm hx hK
theorem wpl_look_ok (hg : o.guard = none) (m x : Operand) (t : TypeId) (hop : o.op = Op.lookup t m x true) (h : MapIs c P k w b s f) (K : Keyed P k) (ht : P.underlying t = some (.map k e)) {z : Value} (hz : (zeroValue e).run P w = .ok z w) {y : κ} {kl : Lit} (hkey : keyOf P k (c y) = some kl)
    (hm : a.eval m = .map (some b)) (hx : a.eval x = c y) (hK : wpList P ops Q rest (a.put o.dst (.tuple #[(f y).getD z, .bool (f y).isSome])) w) : wpList P ops Q (o :: rest) a w := by
  refine wpList_plain hg fun K' hK' => ?_
  have hrun := h.look_ok K ht hz hkey
  unfold Oper.wp
  simp [execOp, hop, hm, hx, hrun, Result.andThen]
  exact hK' _ _ hK
theorem wpl_store (hc : ∀ x y, c x = c y → x = y) (hg : o.guard = none) (m x v : Operand) (t : TypeId) (hop : o.op = Op.mapUpdate t m x v) (h : MapIs c P k w b s f) (K : Keyed P k) (ht : P.underlying t = some (.map k e)) (hn : s < maxLen) {y : κ} {kl : Lit} (hkey : keyOf P k (c y) = some kl) {val : Value}
    (hm : a.eval m = .map (some b)) (hx : a.eval x = c y) (hv : a.eval v = val) (hK : ∀ w', MapIs c P k w' b (if (f y).isSome then s else s + 1) (fun l => if l = y then some val else f l) → w.grownBy w' (some b) → wpList P ops Q rest (a.put o.dst undef) w') : wpList P ops Q (o :: rest) a w := by
  refine wpList_plain hg fun K' hK' => ?_
  obtain ⟨w', hrun, h1, h2⟩ := h.store hc K ht hn hkey val
  unfold Oper.wp
  simp [execOp, hop, hm, hx, hv, hrun, Result.andThen]
  exact hK' _ _ (hK w' h1 h2.grown)
theorem wpl_drop (hc : ∀ x y, c x = c y → x = y) (hg : o.guard = none) (m x : Operand) (t : TypeId) (hop : o.op = Op.call { callee := Callee.builtin Builtin.delete, args := #[m, x], argTypes := #[t, k] }) (h : MapIs c P k w b s f) (K : Keyed P k) (ht : P.underlying t = some (.map k e)) {y : κ} {kl : Lit} (hkey : keyOf P k (c y) = some kl)
    (hm : a.eval m = .map (some b)) (hx : a.eval x = c y) (hK : ∀ w', MapIs c P k w' b (if (f y).isSome then s - 1 else s) (fun l => if l = y then none else f l) → w.grownBy w' (some b) → wpList P ops Q rest (a.put o.dst (.tuple #[])) w') : wpList P ops Q (o :: rest) a w := by
  refine wpList_plain hg fun K' hK' => ?_
  obtain ⟨w', hrun, h1, h2⟩ := h.drop hc K ht hkey o.type
  unfold Oper.wp
  simp [execOp, hop, resolve, invoke, builtin, hm, hx, hrun, Result.andThen]
  exact hK' _ _ (hK w' h1 h2.grown)
theorem wpl_len (hg : o.guard = none) (m : Operand) (t : TypeId) (hop : o.op = Op.call { callee := Callee.builtin Builtin.len, args := #[m], argTypes := #[t] }) (h : MapIs c P k w b s f) (ht : P.underlying t = some (.map k e))
    (hm : a.eval m = .map (some b)) (hK : wpList P ops Q rest (a.put o.dst (.int .i64 s)) w) : wpList P ops Q (o :: rest) a w := by
  refine wpList_plain hg fun K' hK' => ?_
  have hrun := h.len ht o.type
  unfold Oper.wp
  simp [execOp, hop, resolve, invoke, builtin, hm, hrun, Result.andThen]
  exact hK' _ _ hK
end
end Go.Proofs.Ythniclbmpeklmaa.Mp
