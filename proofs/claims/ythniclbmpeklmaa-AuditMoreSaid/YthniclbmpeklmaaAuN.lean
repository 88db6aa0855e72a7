/- What is proved: what a history shows hangs on what stands ahead of the place alone; what was shown is shown still when more follows; plain Lean. -/
import Derived.Test.YthniclbmpeklmaaAuG
namespace Go.Proofs.Ythniclbmpeklmaa.Au
set_option linter.unusedVariables false
section
variable {g g' : Nat → Ev} {i : Nat}
theorem madeN_pre {n : Nat} (h : ∀ j, j < n → g j = g' j) (x : Ha) : madeN g n x = madeN g' n x := by
  unfold madeN
  exact firstN_congr fun j hj => by unfold mkP; rw [h j hj]
theorem overN_pre {n : Nat} (h : ∀ j, j < n → g j = g' j) (m : Nat) (x : Ha) : overN g n m x = overN g' n m x := by
  unfold overN
  exact firstN_congr fun j hj => by unfold overP; rw [h j hj]
theorem endN_pre {n : Nat} (h : ∀ j, j < n → g j = g' j) (b : Nat) (hb : b < n) : endN g n b = endN g' n b := by
  unfold endN
  rw [firstN_congr (q := endP g' b) fun j hj => by unfold endP; rw [h j hj, h b hb]]
  cases hf : firstN (endP g' b) n with
  | none => rfl
  | some i => simp only [Option.bind_some]; rw [h i (firstN_some hf).1]
theorem twiceP_pre (h : ∀ j, j ≤ i → g j = g' j) : twiceP g i = twiceP g' i := by
  unfold twiceP
  rw [h i (Nat.le_refl _)]
  congr 1
  exact anyN_congr fun j hj => by rw [h j (by omega)]
theorem earlyP_pre (h : ∀ j, j ≤ i → g j = g' j) : earlyP g i = earlyP g' i := by
  unfold earlyP
  rw [h i (Nat.le_refl _), madeN_pre (fun j hj => h j (by omega))]
  congr 1
  cases hm : madeN g' i (g' i).h with
  | none => rfl
  | some m => simp only; rw [h m (by have := (firstN_some hm).1; omega)]
theorem endN_le {n b e : Nat} (h : endN g n b = some e) : e < n := by
  unfold endN at h
  cases hf : firstN (endP g b) n with
  | none => rw [hf] at h; cases h
  | some i =>
    rw [hf] at h
    simp only [Option.bind_some] at h
    have := (firstN_some hf).1
    split at h
    · cases h; omega
    · cases h
theorem wrongP_pre (h : ∀ j, j ≤ i → g j = g' j) : wrongP g i = wrongP g' i := by
  unfold wrongP
  rw [h i (Nat.le_refl _)]
  congr 1
  exact anyN_congr fun b hb => by
    rw [h b (by omega), endN_pre (fun j hj => h j (by omega)) b hb]
    congr 2
    cases he : endN g' i b with
    | none => rfl
    | some e => simp only; rw [h e (by have := endN_le he; omega)]
theorem sleptP_pre (h : ∀ j, j ≤ i → g j = g' j) : sleptP g i = sleptP g' i := by
  unfold sleptP
  rw [h i (Nat.le_refl _)]
  congr 1
  refine anyN_congr fun b hb => ?_
  rw [h b (by omega), endN_pre (fun j hj => h j (by omega)) b (by omega)]
  congr 3
  refine anyN_congr fun m hm => ?_
  unfold sleptQ
  rw [h m (by omega), h i (Nat.le_refl _), madeN_pre (fun j hj => h j (by omega)), overN_pre (fun j hj => h j (by omega))]
end
/-- With more behind, the first place is the same; or it lies behind. -/
theorem oI_more {p q : Nat → Bool} {n n' : Nat} (hn : n ≤ n') (h : ∀ i, i < n → p i = q i) : (oI (firstN p n) ≥ 0 → oI (firstN q n') = oI (firstN p n)) ∧ (oI (firstN p n) < 0 → oI (firstN q n') ≥ 0 → oI (firstN q n') ≥ (n : Int)) := by
  rw [firstN_congr h]
  cases hp : firstN q n with
  | some i =>
    have : firstN q n' = some i := firstN_cut hp (by have := (firstN_some hp).1; omega)
    rw [this]
    refine ⟨fun _ => rfl, fun q => ?_⟩
    have : oI (some i) = (i : Int) := rfl
    omega
  | none =>
    refine ⟨fun q => ?_, fun _ hq => ?_⟩
    · have : oI (none : Option Nat) = -1 := rfl
      omega
    · cases hq' : firstN q n' with
      | none =>
        rw [hq'] at hq
        have : oI (none : Option Nat) = -1 := rfl
        omega
      | some j =>
        have hj := firstN_some hq'
        rcases Nat.lt_or_ge j n with z | z
        · have := firstN_none hp j z
          rw [hj.2.1] at this; cases this
        · have : oI (some j) = (j : Int) := rfl
          omega
theorem gOf_app {l m : List Ev} {i : Nat} (hi : i < l.length) : gOf l i = gOf (l ++ m) i := by
  unfold gOf
  rw [List.getD_eq_getElem?_getD, List.getD_eq_getElem?_getD, List.getElem?_append_left hi]
end Go.Proofs.Ythniclbmpeklmaa.Au
