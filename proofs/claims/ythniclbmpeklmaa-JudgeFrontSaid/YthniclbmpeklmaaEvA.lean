/- What is proved: which events are right, as the reference's function tells it; no conditions. -/
import Derived.Test.YthniclbmpeklmaaProg
import Derived.WalkKit
import Derived.KernelRfl
import Derived.Deep.LoopGhost
import Derived.Deep.QuietTactic
import Derived.BigQuiet
import Derived.Laws.CopyOwn
import Derived.Laws.Rows
import Derived.Test.YthniclbmpeklmaaWWords
import Derived.Test.YthniclbmpeklmaaWLast
import Derived.Test.YthniclbmpeklmaaWMore
namespace Go.Proofs.Ythniclbmpeklmaa.Ev
open Go.RowKit Go.Proofs.YthniclbmpeklmaaW.PrintWords Go.Proofs.YthniclbmpeklmaaW.PrintLast Go.Proofs.YthniclbmpeklmaaW.PrintMore
set_option linter.unusedVariables false
set_option linter.unusedSimpArgs false

/-- An event's cells. -/
abbrev evC (k wk op hn hg nn ng t a u : Int) (y : Bool) (er : Int) : Array Value := #[.int .i64 k, .int .i64 wk, .int .i64 op, .int .i64 hn, .int .i64 hg, .int .i64 nn, .int .i64 ng, .int .i64 t, .int .i64 a, .int .i64 u, .bool y, .int .i64 er]

theorem in_any (n x y z : Int) (b : Nat) (w : World) (h0 : w.cell? ⟨b, 0, none⟩ = some (.int .i64 x)) (h1 : w.cell? ⟨b, 1, none⟩ = some (.int .i64 y)) (h2 : w.cell? ⟨b, 2, none⟩ = some (.int .i64 z)) :
    Calls Try.prog 105 #[.int .i64 n, .slice (some ⟨b, 0, none⟩) 3 3] w fun e w' => e = .returned (.bool (x == n || (y == n || z == n))) ∧ w' = w := by
  cases cx : (x == n)
  · cases cy : (y == n)
    · cases cz : (z == n)
      · go_enter Try.func105, Try.ntmps105
        go_wp2
        go_loop [5] (fun v => v = .int .i64 0 ∨ v = .int .i64 1 ∨ v = .int .i64 2 ∨ v = .int .i64 3) (fun v => 3 - (intOf v).toNat)
        case atStart => exact .inl rfl
        case round =>
          rcases hrel with rfl | rfl | rfl | rfl
          · go_wp2
            go_round
            case rel => exact .inr (.inl rfl)
            case measure => simp [intOf]
          · go_wp2
            go_round
            case rel => exact .inr (.inr (.inl rfl))
            case measure => simp [intOf]
          · go_wp2
            go_round
            case rel => exact .inr (.inr (.inr (rfl)))
            case measure => simp [intOf]
          · go_wp2
            go_ret
            exact ⟨by simp [*], rfl⟩
      · go_enter Try.func105, Try.ntmps105
        go_wp2
        go_loop [5] (fun v => v = .int .i64 0 ∨ v = .int .i64 1 ∨ v = .int .i64 2) (fun v => 3 - (intOf v).toNat)
        case atStart => exact .inl rfl
        case round =>
          rcases hrel with rfl | rfl | rfl
          · go_wp2
            go_round
            case rel => exact .inr (.inl rfl)
            case measure => simp [intOf]
          · go_wp2
            go_round
            case rel => exact .inr (.inr (rfl))
            case measure => simp [intOf]
          · go_wp2
            go_ret
            exact ⟨by simp [*], rfl⟩
    · go_enter Try.func105, Try.ntmps105
      go_wp2
      go_loop [5] (fun v => v = .int .i64 0 ∨ v = .int .i64 1) (fun v => 3 - (intOf v).toNat)
      case atStart => exact .inl rfl
      case round =>
        rcases hrel with rfl | rfl
        · go_wp2
          go_round
          case rel => exact .inr (rfl)
          case measure => simp [intOf]
        · go_wp2
          go_ret
          exact ⟨by simp [*], rfl⟩
  · go_enter Try.func105, Try.ntmps105
    go_wp2
    go_loop [5] (fun v => v = .int .i64 0) (fun v => 3 - (intOf v).toNat)
    case atStart => exact rfl
    case round =>
      obtain rfl := hrel
      · go_wp2
        go_ret
        exact ⟨by simp [*], rfl⟩
end Go.Proofs.Ythniclbmpeklmaa.Ev
