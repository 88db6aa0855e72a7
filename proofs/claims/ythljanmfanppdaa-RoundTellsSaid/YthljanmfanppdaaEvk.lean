/- What is proved: of functions with a bound on rounds: what they tell with enough of them; no conditions. Plain Lean. -/
import Derived.Test.YthljanmfanppdaaWWords
namespace Go.Proofs.Ythljanmfanppdaa.Evk
open Go.RowKit
/-- With enough rounds g tells r. -/
def Evs {α : Type} (g : Nat → Option α) (r : α) : Prop := ∃ K, ∀ k, K ≤ k → g k = some r
theorem Evs.now {α : Type} {g : Nat → Option α} {r : α} (h : ∀ k, g k = some r) : Evs g r := ⟨0, fun k _ => h k⟩
theorem Evs.get {α : Type} {g : Nat → Option α} {r : α} (h : Evs g r) : ∃ k, g k = some r := by
  obtain ⟨K, h⟩ := h
  exact ⟨K, h K (Nat.le_refl _)⟩
theorem Evs.congr {α : Type} {g h : Nat → Option α} {r : α} (e : ∀ k, g k = h k) (p : Evs h r) : Evs g r := by
  obtain ⟨K, p⟩ := p
  exact ⟨K, fun k hk => (e k).trans (p k hk)⟩
/-- One round. -/
theorem Evs.succ {α : Type} {g h : Nat → Option α} {r : α} (e : ∀ k, g (k + 1) = h k) (p : Evs h r) : Evs g r := by
  obtain ⟨K, p⟩ := p
  refine ⟨K + 1, fun k hk => ?_⟩
  obtain ⟨m, rfl⟩ : ∃ m, k = m + 1 := ⟨k - 1, by omega⟩
  exact (e m).trans (p m (by omega))
/-- What is done ahead. -/
theorem Evs.bind {α β : Type} {f : Nat → Option α} {g : α → Nat → Option β} {a : α} {r : β} (p : Evs f a) (q : Evs (g a) r) : Evs (fun k => (f k).bind fun x => g x k) r := by
  obtain ⟨K, p⟩ := p
  obtain ⟨L, q⟩ := q
  refine ⟨K + L, fun k hk => ?_⟩
  show (f k).bind (fun x => g x k) = some r
  rw [p k (by omega), Option.bind_some]
  exact q k (by omega)
theorem Evs.after {α β : Type} {f : Nat → Option α} {g : Nat → Option β} {h : Nat → α → Option β} {a : α} {r : β} (p : Evs f a) (e : ∀ k, g k = (f k).bind (h k)) (q : Evs (fun k => h k a) r) : Evs g r := by
  obtain ⟨K, p⟩ := p
  obtain ⟨L, q⟩ := q
  refine ⟨K + L, fun k hk => ?_⟩
  rw [e, p k (by omega), Option.bind_some]
  exact q k (by omega)
theorem w64 {x : Int} (h0 : -9223372036854775808 ≤ x) (h1 : x ≤ 9223372036854775807) : wrap64 x = x := by unfold wrap64; omega
end Go.Proofs.Ythljanmfanppdaa.Evk
