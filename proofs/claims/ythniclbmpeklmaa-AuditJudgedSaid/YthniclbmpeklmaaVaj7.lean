/- What is proved: a part of the way to the statement AuditJudgedSaid: KAjx0, KAjx1, JuI, JuV, Krow; no conditions. Put together by a program of this session (claimv.py). -/
import Derived.Test.YthniclbmpeklmaaProg
import Derived.Below
import Derived.Deep.Draws
import Derived.Deep.AppendLies
import Derived.Maps.AppendAt
import Derived.OwnWalk
import Derived.Laws.BytesArg
import Derived.Laws.MakeOwn
import Derived.Laws.OwnMore
import Derived.Deep.OwnRows
import Derived.Tactics
import Derived.Lib.ConvBytes
import Derived.Laws.Slices
import Derived.WalkKit
import Derived.KernelRfl
import Derived.RowKit3
import Derived.Deep.LoopGhost
import Derived.Deep.QuietTactic
import Derived.BigQuiet
import Derived.WideLaws
import Derived.Deep.DeepCutAuto
import Derived.Deep.CutBlock
import Derived.Deep.RegionHeld3
import Derived.Laws.Rows
import Derived.Lib.AppendStr
import Derived.ArgAppend
import Derived.Laws.IdiomCopy
import Derived.OrdersHeld
import Derived.Laws.BitsLemmas
import Derived.RowKit
import Derived.ChangeArms
import Derived.WideShapes
import Derived.OpenShut
import Derived.Deep.Slices
import Derived.Test.YthniclbmpeklmaaVaj6
section
namespace Go.Proofs.Ythniclbmpeklmaa.KAj
open Go.RowKit Go.Proofs.YthniclbmpeklmaaW.PrintWords Go.Proofs.YthniclbmpeklmaaW.PrintLast Go.Proofs.YthniclbmpeklmaaW.PrintMore
attribute [local go_sem] max2_int min2_int max_two min_two max_three min_three max_four min_four   -- for this text's walks alone
set_option linter.unusedVariables false
set_option linter.unusedSimpArgs false
def errW : Option Int → Value
  | none => .nilIface
  | some c => .iface 0 (.int .i64 c)
theorem errW_none : errW none = .nilIface := rfl
theorem errW_some (c : Int) : errW (some c) = .iface 0 (.int .i64 c) := rfl
theorem info54 : (Try.prog.info? 54).map (fun i => (i.zero, i.size, i.bytes)) = some (some (.agg #[(.int .i64 0), (.int .i64 0), (.int .i64 0), (.int .i64 0), (.int .i64 0), (.int .i64 0), (.int .i64 0), (.int .i64 0), (.int .i64 0), (.int .i64 0), (.bool false), (.int .i64 0)]), 12, 96) := by kernel_rfl
structure S34 where
  f0 : Int
  f1 : Int
def z34 : S34 := ⟨(0 : Int), (0 : Int)⟩
def k34 : Kd S34 := Kd.iso (Kd.pair (Kd.int .i64) (Kd.int .i64)) (fun x : S34 => (x.f0, x.f1))
theorem k34_open {w : World} {x : S34} {cs : List Value} (h : k34.K w x cs) : cs = [.int .i64 x.f0, .int .i64 x.f1] := by
  obtain ⟨_, _, rfl, rfl, rfl⟩ := h
  exact rfl
theorem k34_mkM (w : World) (base : Nat) (ok : Nat → Prop) (x : S34)  : k34.M w base ok x [.int .i64 x.f0, .int .i64 x.f1] := ⟨[.int .i64 x.f0], [.int .i64 x.f1], rfl, rfl, rfl⟩
structure S54 where
  f0 : Int
  f1 : Int
  f2 : Int
  f3 : S34
  f4 : S34
  f5 : Int
  f6 : Int
  f7 : Int
  f8 : Bool
  f9 : Int
def z54 : S54 := ⟨(0 : Int), (0 : Int), (0 : Int), z34, z34, (0 : Int), (0 : Int), (0 : Int), false, (0 : Int)⟩
def k54 : Kd S54 := Kd.iso (Kd.pair (Kd.int .i64) (Kd.pair (Kd.int .i64) (Kd.pair (Kd.int .i64) (Kd.pair k34 (Kd.pair k34 (Kd.pair (Kd.int .i64) (Kd.pair (Kd.int .i64) (Kd.pair (Kd.int .i64) (Kd.pair Kd.bool (Kd.int .i64)))))))))) (fun x : S54 => (x.f0, x.f1, x.f2, x.f3, x.f4, x.f5, x.f6, x.f7, x.f8, x.f9))
theorem k54_open {w : World} {x : S54} {cs : List Value} (h : k54.K w x cs) : cs = [.int .i64 x.f0, .int .i64 x.f1, .int .i64 x.f2, .int .i64 x.f3.f0, .int .i64 x.f3.f1, .int .i64 x.f4.f0, .int .i64 x.f4.f1, .int .i64 x.f5, .int .i64 x.f6, .int .i64 x.f7, .bool x.f8, .int .i64 x.f9] := by
  obtain ⟨_, _, rfl, rfl, ⟨_, _, rfl, rfl, ⟨_, _, rfl, rfl, ⟨_, _, rfl, s3, ⟨_, _, rfl, s5, ⟨_, _, rfl, rfl, ⟨_, _, rfl, rfl, ⟨_, _, rfl, rfl, ⟨_, _, rfl, rfl, rfl⟩⟩⟩⟩⟩⟩⟩⟩⟩ := h
  obtain rfl := k34_open s3
  obtain rfl := k34_open s5
  exact rfl
theorem k54_mkM (w : World) (base : Nat) (ok : Nat → Prop) (x : S54)  : k54.M w base ok x [.int .i64 x.f0, .int .i64 x.f1, .int .i64 x.f2, .int .i64 x.f3.f0, .int .i64 x.f3.f1, .int .i64 x.f4.f0, .int .i64 x.f4.f1, .int .i64 x.f5, .int .i64 x.f6, .int .i64 x.f7, .bool x.f8, .int .i64 x.f9] := ⟨[.int .i64 x.f0], [.int .i64 x.f1, .int .i64 x.f2, .int .i64 x.f3.f0, .int .i64 x.f3.f1, .int .i64 x.f4.f0, .int .i64 x.f4.f1, .int .i64 x.f5, .int .i64 x.f6, .int .i64 x.f7, .bool x.f8, .int .i64 x.f9], rfl, rfl, ⟨[.int .i64 x.f1], [.int .i64 x.f2, .int .i64 x.f3.f0, .int .i64 x.f3.f1, .int .i64 x.f4.f0, .int .i64 x.f4.f1, .int .i64 x.f5, .int .i64 x.f6, .int .i64 x.f7, .bool x.f8, .int .i64 x.f9], rfl, rfl, ⟨[.int .i64 x.f2], [.int .i64 x.f3.f0, .int .i64 x.f3.f1, .int .i64 x.f4.f0, .int .i64 x.f4.f1, .int .i64 x.f5, .int .i64 x.f6, .int .i64 x.f7, .bool x.f8, .int .i64 x.f9], rfl, rfl, ⟨[.int .i64 x.f3.f0, .int .i64 x.f3.f1], [.int .i64 x.f4.f0, .int .i64 x.f4.f1, .int .i64 x.f5, .int .i64 x.f6, .int .i64 x.f7, .bool x.f8, .int .i64 x.f9], rfl, (k34_mkM w base ok x.f3 ), ⟨[.int .i64 x.f4.f0, .int .i64 x.f4.f1], [.int .i64 x.f5, .int .i64 x.f6, .int .i64 x.f7, .bool x.f8, .int .i64 x.f9], rfl, (k34_mkM w base ok x.f4 ), ⟨[.int .i64 x.f5], [.int .i64 x.f6, .int .i64 x.f7, .bool x.f8, .int .i64 x.f9], rfl, rfl, ⟨[.int .i64 x.f6], [.int .i64 x.f7, .bool x.f8, .int .i64 x.f9], rfl, rfl, ⟨[.int .i64 x.f7], [.bool x.f8, .int .i64 x.f9], rfl, rfl, ⟨[.bool x.f8], [.int .i64 x.f9], rfl, rfl, rfl⟩⟩⟩⟩⟩⟩⟩⟩⟩
def rd_T54 (xs : List S54) (i : Int) : S54 := xs.getD i.toNat z54
theorem at_T54 {w : World} {A : Option Addr} {n : Nat} {xs : List S54} (h : Kd.C k54 w A n xs) (i : Int) (h0 : 0 ≤ i) (h1 : i < n) : ∃ ad , A = some ad ∧ w.cell? (ad.add (i.toNat * 12)) = some (.int .i64 (rd_T54 xs i).f0) ∧ w.cell? ⟨(ad.add (i.toNat * 12)).block, (ad.add (i.toNat * 12)).off + 1, none⟩ = some (.int .i64 (rd_T54 xs i).f1) ∧ w.cell? ⟨(ad.add (i.toNat * 12)).block, (ad.add (i.toNat * 12)).off + 2, none⟩ = some (.int .i64 (rd_T54 xs i).f2) ∧ w.cell? ⟨(ad.add (i.toNat * 12)).block, (ad.add (i.toNat * 12)).off + 3, none⟩ = some (.int .i64 (rd_T54 xs i).f3.f0) ∧ w.cell? ⟨(ad.add (i.toNat * 12)).block, (ad.add (i.toNat * 12)).off + 4, none⟩ = some (.int .i64 (rd_T54 xs i).f3.f1) ∧ w.cell? ⟨(ad.add (i.toNat * 12)).block, (ad.add (i.toNat * 12)).off + 5, none⟩ = some (.int .i64 (rd_T54 xs i).f4.f0) ∧ w.cell? ⟨(ad.add (i.toNat * 12)).block, (ad.add (i.toNat * 12)).off + 6, none⟩ = some (.int .i64 (rd_T54 xs i).f4.f1) ∧ w.cell? ⟨(ad.add (i.toNat * 12)).block, (ad.add (i.toNat * 12)).off + 7, none⟩ = some (.int .i64 (rd_T54 xs i).f5) ∧ w.cell? ⟨(ad.add (i.toNat * 12)).block, (ad.add (i.toNat * 12)).off + 8, none⟩ = some (.int .i64 (rd_T54 xs i).f6) ∧ w.cell? ⟨(ad.add (i.toNat * 12)).block, (ad.add (i.toNat * 12)).off + 9, none⟩ = some (.int .i64 (rd_T54 xs i).f7) ∧ w.cell? ⟨(ad.add (i.toNat * 12)).block, (ad.add (i.toNat * 12)).off + 10, none⟩ = some (.bool (rd_T54 xs i).f8) ∧ w.cell? ⟨(ad.add (i.toNat * 12)).block, (ad.add (i.toNat * 12)).off + 11, none⟩ = some (.int .i64 (rd_T54 xs i).f9) := by
  obtain ⟨ad, c, e, _, hK, hc0⟩ := Kd.C_get h z54 i h0 h1
  have hc : ∀ j u, c[j]? = some u → w.cell? (ad.add (i.toNat * 12 + j)) = some u := hc0
  obtain rfl := k54_open hK
  exact ⟨ad, e, hc 0 _ rfl, by rw [← add_field _ _ 1 (by omega)]; exact hc 1 _ rfl, by rw [← add_field _ _ 2 (by omega)]; exact hc 2 _ rfl, by rw [← add_field _ _ 3 (by omega)]; exact hc 3 _ rfl, by rw [← add_field _ _ 4 (by omega)]; exact hc 4 _ rfl, by rw [← add_field _ _ 5 (by omega)]; exact hc 5 _ rfl, by rw [← add_field _ _ 6 (by omega)]; exact hc 6 _ rfl, by rw [← add_field _ _ 7 (by omega)]; exact hc 7 _ rfl, by rw [← add_field _ _ 8 (by omega)]; exact hc 8 _ rfl, by rw [← add_field _ _ 9 (by omega)]; exact hc 9 _ rfl, by rw [← add_field _ _ 10 (by omega)]; exact hc 10 _ rfl, by rw [← add_field _ _ 11 (by omega)]; exact hc 11 _ rfl⟩
structure S36 where
  f0 : Int
  f1 : Int
def z36 : S36 := ⟨(0 : Int), (0 : Int)⟩
def k36 : Kd S36 := Kd.iso (Kd.pair (Kd.int .i64) (Kd.int .i64)) (fun x : S36 => (x.f0, x.f1))
theorem k36_open {w : World} {x : S36} {cs : List Value} (h : k36.K w x cs) : cs = [.int .i64 x.f0, .int .i64 x.f1] := by
  obtain ⟨_, _, rfl, rfl, rfl⟩ := h
  exact rfl
theorem k36_mk (w : World) (x : S36)  : k36.K w x [.int .i64 x.f0, .int .i64 x.f1] := ⟨[.int .i64 x.f0], [.int .i64 x.f1], rfl, rfl, rfl⟩
structure S50 where
  f0 : Int
  f1 : Int
  f2 : Int
  f3 : S36
  f4 : S36
  f5 : Int
  f6 : Int
  f7 : Int
  f8 : Bool
  f9 : Int
def z50 : S50 := ⟨(0 : Int), (0 : Int), (0 : Int), z36, z36, (0 : Int), (0 : Int), (0 : Int), false, (0 : Int)⟩
def k50 : Kd S50 := Kd.iso (Kd.pair (Kd.int .i64) (Kd.pair (Kd.int .i64) (Kd.pair (Kd.int .i64) (Kd.pair k36 (Kd.pair k36 (Kd.pair (Kd.int .i64) (Kd.pair (Kd.int .i64) (Kd.pair (Kd.int .i64) (Kd.pair Kd.bool (Kd.int .i64)))))))))) (fun x : S50 => (x.f0, x.f1, x.f2, x.f3, x.f4, x.f5, x.f6, x.f7, x.f8, x.f9))
theorem k50_open {w : World} {x : S50} {cs : List Value} (h : k50.K w x cs) : cs = [.int .i64 x.f0, .int .i64 x.f1, .int .i64 x.f2, .int .i64 x.f3.f0, .int .i64 x.f3.f1, .int .i64 x.f4.f0, .int .i64 x.f4.f1, .int .i64 x.f5, .int .i64 x.f6, .int .i64 x.f7, .bool x.f8, .int .i64 x.f9] := by
  obtain ⟨_, _, rfl, rfl, ⟨_, _, rfl, rfl, ⟨_, _, rfl, rfl, ⟨_, _, rfl, s3, ⟨_, _, rfl, s5, ⟨_, _, rfl, rfl, ⟨_, _, rfl, rfl, ⟨_, _, rfl, rfl, ⟨_, _, rfl, rfl, rfl⟩⟩⟩⟩⟩⟩⟩⟩⟩ := h
  obtain rfl := k36_open s3
  obtain rfl := k36_open s5
  exact rfl
theorem k50_mk (w : World) (x : S50)  : k50.K w x [.int .i64 x.f0, .int .i64 x.f1, .int .i64 x.f2, .int .i64 x.f3.f0, .int .i64 x.f3.f1, .int .i64 x.f4.f0, .int .i64 x.f4.f1, .int .i64 x.f5, .int .i64 x.f6, .int .i64 x.f7, .bool x.f8, .int .i64 x.f9] := ⟨[.int .i64 x.f0], [.int .i64 x.f1, .int .i64 x.f2, .int .i64 x.f3.f0, .int .i64 x.f3.f1, .int .i64 x.f4.f0, .int .i64 x.f4.f1, .int .i64 x.f5, .int .i64 x.f6, .int .i64 x.f7, .bool x.f8, .int .i64 x.f9], rfl, rfl, ⟨[.int .i64 x.f1], [.int .i64 x.f2, .int .i64 x.f3.f0, .int .i64 x.f3.f1, .int .i64 x.f4.f0, .int .i64 x.f4.f1, .int .i64 x.f5, .int .i64 x.f6, .int .i64 x.f7, .bool x.f8, .int .i64 x.f9], rfl, rfl, ⟨[.int .i64 x.f2], [.int .i64 x.f3.f0, .int .i64 x.f3.f1, .int .i64 x.f4.f0, .int .i64 x.f4.f1, .int .i64 x.f5, .int .i64 x.f6, .int .i64 x.f7, .bool x.f8, .int .i64 x.f9], rfl, rfl, ⟨[.int .i64 x.f3.f0, .int .i64 x.f3.f1], [.int .i64 x.f4.f0, .int .i64 x.f4.f1, .int .i64 x.f5, .int .i64 x.f6, .int .i64 x.f7, .bool x.f8, .int .i64 x.f9], rfl, (k36_mk w x.f3 ), ⟨[.int .i64 x.f4.f0, .int .i64 x.f4.f1], [.int .i64 x.f5, .int .i64 x.f6, .int .i64 x.f7, .bool x.f8, .int .i64 x.f9], rfl, (k36_mk w x.f4 ), ⟨[.int .i64 x.f5], [.int .i64 x.f6, .int .i64 x.f7, .bool x.f8, .int .i64 x.f9], rfl, rfl, ⟨[.int .i64 x.f6], [.int .i64 x.f7, .bool x.f8, .int .i64 x.f9], rfl, rfl, ⟨[.int .i64 x.f7], [.bool x.f8, .int .i64 x.f9], rfl, rfl, ⟨[.bool x.f8], [.int .i64 x.f9], rfl, rfl, rfl⟩⟩⟩⟩⟩⟩⟩⟩⟩
def rd_T50 (xs : List S50) (i : Int) : S50 := xs.getD i.toNat z50
theorem at_T50 {w : World} {A : Option Addr} {n : Nat} {xs : List S50} (h : Kd.C k50 w A n xs) (i : Int) (h0 : 0 ≤ i) (h1 : i < n) : ∃ ad , A = some ad ∧ w.cell? (ad.add (i.toNat * 12)) = some (.int .i64 (rd_T50 xs i).f0) ∧ w.cell? ⟨(ad.add (i.toNat * 12)).block, (ad.add (i.toNat * 12)).off + 1, none⟩ = some (.int .i64 (rd_T50 xs i).f1) ∧ w.cell? ⟨(ad.add (i.toNat * 12)).block, (ad.add (i.toNat * 12)).off + 2, none⟩ = some (.int .i64 (rd_T50 xs i).f2) ∧ w.cell? ⟨(ad.add (i.toNat * 12)).block, (ad.add (i.toNat * 12)).off + 3, none⟩ = some (.int .i64 (rd_T50 xs i).f3.f0) ∧ w.cell? ⟨(ad.add (i.toNat * 12)).block, (ad.add (i.toNat * 12)).off + 4, none⟩ = some (.int .i64 (rd_T50 xs i).f3.f1) ∧ w.cell? ⟨(ad.add (i.toNat * 12)).block, (ad.add (i.toNat * 12)).off + 5, none⟩ = some (.int .i64 (rd_T50 xs i).f4.f0) ∧ w.cell? ⟨(ad.add (i.toNat * 12)).block, (ad.add (i.toNat * 12)).off + 6, none⟩ = some (.int .i64 (rd_T50 xs i).f4.f1) ∧ w.cell? ⟨(ad.add (i.toNat * 12)).block, (ad.add (i.toNat * 12)).off + 7, none⟩ = some (.int .i64 (rd_T50 xs i).f5) ∧ w.cell? ⟨(ad.add (i.toNat * 12)).block, (ad.add (i.toNat * 12)).off + 8, none⟩ = some (.int .i64 (rd_T50 xs i).f6) ∧ w.cell? ⟨(ad.add (i.toNat * 12)).block, (ad.add (i.toNat * 12)).off + 9, none⟩ = some (.int .i64 (rd_T50 xs i).f7) ∧ w.cell? ⟨(ad.add (i.toNat * 12)).block, (ad.add (i.toNat * 12)).off + 10, none⟩ = some (.bool (rd_T50 xs i).f8) ∧ w.cell? ⟨(ad.add (i.toNat * 12)).block, (ad.add (i.toNat * 12)).off + 11, none⟩ = some (.int .i64 (rd_T50 xs i).f9) := by
  obtain ⟨ad, c, e, _, hK, hc0⟩ := Kd.C_get h z50 i h0 h1
  have hc : ∀ j u, c[j]? = some u → w.cell? (ad.add (i.toNat * 12 + j)) = some u := hc0
  obtain rfl := k50_open hK
  exact ⟨ad, e, hc 0 _ rfl, by rw [← add_field _ _ 1 (by omega)]; exact hc 1 _ rfl, by rw [← add_field _ _ 2 (by omega)]; exact hc 2 _ rfl, by rw [← add_field _ _ 3 (by omega)]; exact hc 3 _ rfl, by rw [← add_field _ _ 4 (by omega)]; exact hc 4 _ rfl, by rw [← add_field _ _ 5 (by omega)]; exact hc 5 _ rfl, by rw [← add_field _ _ 6 (by omega)]; exact hc 6 _ rfl, by rw [← add_field _ _ 7 (by omega)]; exact hc 7 _ rfl, by rw [← add_field _ _ 8 (by omega)]; exact hc 8 _ rfl, by rw [← add_field _ _ 9 (by omega)]; exact hc 9 _ rfl, by rw [← add_field _ _ 10 (by omega)]; exact hc 10 _ rfl, by rw [← add_field _ _ 11 (by omega)]; exact hc 11 _ rfl⟩
end Go.Proofs.Ythniclbmpeklmaa.KAj
end
section
namespace Go.Proofs.Ythniclbmpeklmaa.KAj
open Go.RowKit Go.Proofs.YthniclbmpeklmaaW.PrintWords Go.Proofs.YthniclbmpeklmaaW.PrintLast Go.Proofs.YthniclbmpeklmaaW.PrintMore
attribute [local go_sem] max2_int min2_int max_two min_two max_three min_three max_four min_four   -- for this text's walks alone
set_option linter.unusedVariables false
set_option linter.unusedSimpArgs false
def audit_Twice.ev (x : S54) : Go.Proofs.Ythniclbmpeklmaa.Au.Ev := ⟨x.f0, x.f1, x.f2, x.f3.f0, x.f3.f1, x.f4.f0, x.f4.f1, x.f5, x.f6, x.f7, x.f8, x.f9⟩
def audit_Twice.f (l0 : List S54) : Option Int := if l0.length ≤ 1000000 ∧ (l0.all fun x => Go.Proofs.Ythniclbmpeklmaa.Au.wfB (audit_Twice.ev x)) = true then some (Go.Proofs.Ythniclbmpeklmaa.Au.twiceI (Go.Proofs.Ythniclbmpeklmaa.Au.gOf (l0.map audit_Twice.ev)) l0.length) else none
theorem audit_Twice.calls (A0 : Option Addr) (c0 : Nat) (l0 : List S54) (r : Int) (w : World) (hr0 : Kd.C k54 w A0 l0.length l0) (hc0 : l0.length ≤ c0) (h : audit_Twice.f l0 = some r) :
    Calls Try.prog 17 #[.slice A0 l0.length c0] w fun e w' => e = .returned (.int .i64 r) ∧ Below w.heap.size w w' := by
  unfold audit_Twice.f at h
  split at h
  · rename_i hs
    cases h
    have h1 := Go.Proofs.Ythniclbmpeklmaa.Au.twice_top A0 c0 (l0.map audit_Twice.ev) (by rw [List.length_map]; exact hs.1) w (fun i e he => by
      rw [List.getElem?_map] at he
      obtain ⟨x, hx, rfl⟩ := Option.map_eq_some_iff.1 he
      have hi : i < l0.length := (List.getElem?_eq_some_iff.1 hx).1
      have hrd : rd_T54 l0 (i : Int) = x := by
        show l0.getD i z54 = x
        rw [List.getD_eq_getElem?_getD, hx]; rfl
      have hat := at_T54 hr0 (i : Int) (by omega) (by omega)
      rw [hrd] at hat
      exact hat) (fun e he => by
      obtain ⟨x, hx, rfl⟩ := List.mem_map.1 he
      exact Go.Proofs.Ythniclbmpeklmaa.Au.wfE_of (List.all_eq_true.1 hs.2 x hx))
    rw [List.length_map] at h1
    exact h1
  · cases h
def knelllaw14_speaks.f  : Option (Bool) := (audit_Twice.f (([(⟨4, 0, 0, (⟨1, 2⟩ : S34), (⟨0, 0⟩ : S34), 3, 0, 0, false, 0⟩ : S54), (⟨4, 0, 0, (⟨1, 2⟩ : S34), (⟨0, 0⟩ : S34), 3, 0, 0, false, 0⟩ : S54)] : List (S54)))).bind fun t105 => (if t105 = 1 then ((audit_Twice.f (([(⟨4, 0, 0, (⟨1, 2⟩ : S34), (⟨0, 0⟩ : S34), 3, 0, 0, false, 0⟩ : S54)] : List (S54)))).bind fun t109 => (some (t109 == (-1)))) else (some false))
set_option maxHeartbeats 8000000 in
set_option maxRecDepth 100000 in
theorem knelllaw14_speaks.calls  (r : Bool) (w : World) (h : knelllaw14_speaks.f  = some r) :
    Calls Try.prog 15 #[] w fun e w' => e = .returned (.bool r) ∧ Below w.heap.size w w' := by
  have hu34 := Try.underlying34
  have hu54 := Try.underlying54
  have HB := Aside0.mk (Below.refl w.heap.size w)
  have H : ((audit_Twice.f (([(⟨4, 0, 0, (⟨1, 2⟩ : S34), (⟨0, 0⟩ : S34), 3, 0, 0, false, 0⟩ : S54), (⟨4, 0, 0, (⟨1, 2⟩ : S34), (⟨0, 0⟩ : S34), 3, 0, 0, false, 0⟩ : S54)] : List (S54)))).bind fun t105 => (if t105 = 1 then ((audit_Twice.f (([(⟨4, 0, 0, (⟨1, 2⟩ : S34), (⟨0, 0⟩ : S34), 3, 0, 0, false, 0⟩ : S54)] : List (S54)))).bind fun t109 => (some (t109 == (-1)))) else (some false))) = some r := h
  clear h
  obtain ⟨y102, hy102⟩ : ∃ y_ : List (S54), y_ = (([(⟨4, 0, 0, (⟨1, 2⟩ : S34), (⟨0, 0⟩ : S34), 3, 0, 0, false, 0⟩ : S54), (⟨4, 0, 0, (⟨1, 2⟩ : S34), (⟨0, 0⟩ : S34), 3, 0, 0, false, 0⟩ : S54)] : List (S54))) := ⟨_, rfl⟩
  replace H : ((audit_Twice.f y102).bind fun t105 => (if t105 = 1 then ((audit_Twice.f (([(⟨4, 0, 0, (⟨1, 2⟩ : S34), (⟨0, 0⟩ : S34), 3, 0, 0, false, 0⟩ : S54)] : List (S54)))).bind fun t109 => (some (t109 == (-1)))) else (some false))) = some r := by first | (rw [hy102]; with_reducible exact H) | (have H2_ := (Option.bind_some _ _).symm.trans H; rw [hy102]; with_reducible exact H2_) | (have H2_ := (Option.bind_some _ _).symm.trans H; with_reducible exact H2_) | with_reducible exact H | (rw [hy102]; exact H) | exact H
  have Ny102 := Aside0.mk hy102
  clear hy102
  replace H := Option.bind_eq_some_iff.mp H
  obtain ⟨t105, A10, H⟩ := H
  replace H : (if t105 = 1 then ((audit_Twice.f (([(⟨4, 0, 0, (⟨1, 2⟩ : S34), (⟨0, 0⟩ : S34), 3, 0, 0, false, 0⟩ : S54)] : List (S54)))).bind fun t109 => (some (t109 == (-1)))) else (some false)) = some r := H
  have A1 := Aside0.mk A10
  clear A10
  by_cases c2 : t105 = 1
  · rw [if_pos c2] at H
    have c2b0 : (t105 == 1) = true := beq_iff_eq.mpr c2
    have c2b1 : (t105 != 1) = false := bne_eq_false_iff_eq.mpr c2
    clear c2
    obtain ⟨y106, hy106⟩ : ∃ y_ : List (S54), y_ = (([(⟨4, 0, 0, (⟨1, 2⟩ : S34), (⟨0, 0⟩ : S34), 3, 0, 0, false, 0⟩ : S54)] : List (S54))) := ⟨_, rfl⟩
    replace H : ((audit_Twice.f y106).bind fun t109 => (some (t109 == (-1)))) = some r := by first | (rw [hy106]; with_reducible exact H) | (have H2_ := (Option.bind_some _ _).symm.trans H; rw [hy106]; with_reducible exact H2_) | (have H2_ := (Option.bind_some _ _).symm.trans H; with_reducible exact H2_) | with_reducible exact H | (rw [hy106]; exact H) | exact H
    have Ny106 := Aside0.mk hy106
    clear hy106
    replace H := Option.bind_eq_some_iff.mp H
    obtain ⟨t109, A30, H⟩ := H
    replace H : (some (t109 == (-1))) = some r := H
    have A3 := Aside0.mk A30
    clear A30
    obtain rfl := Option.some.inj H
    go_enter Try.func15, Try.ntmps15
    go_wp2_with (first | ((with_reducible refine gate_dst (N := 1) rfl ?_); (try (refine gate_guard (by rfl) ?_; dsimp only)); refine box_event ?hg (N := 1) ?hd (cs := #[.int .i64 0, .int .i64 0, .int .i64 0, .int .i64 0, .int .i64 0, .int .i64 0, .int .i64 0, .int .i64 0, .int .i64 0, .int .i64 0, .bool false, .int .i64 0]) (t := 54) ?hr ?_; (case hd => rfl); (case hg => rfl); (case hr => first | (go_simp; done) | (go_simp; rfl)); intro gb101 hg w4 hbox hb; have n0_ := Aside0.mk (below_step (by repeat (first | (with_reducible first | exact HB.out | apply below_alloc | apply pw_below_drewN | apply below_drew1) | exact HB.out)) hb); have n1_ := Aside0.mk (hbox); have n2_ := Aside0.mk ((by rw [hg]; exact (below_size (by repeat (first | (with_reducible first | exact HB.out | apply below_alloc | apply pw_below_drewN | apply below_drew1) | exact HB.out))) : w.heap.size ≤ gb101)); have n3_ := Aside0.mk ((by rw [hg]; exact (below_size (by repeat (first | (with_reducible first | exact HB.out | apply below_alloc | apply pw_below_drewN | apply below_drew1) | exact HB.out))) : w.heap.size ≤ gb101)); clear HB; have HB := n0_; have BK101 := n1_; have GW101 := n2_; have GE101 := n3_; clear n0_ n1_ n2_ n3_; clear hb hbox hg; have hcz5_0 : w4.cell? ⟨gb101, 0, none⟩ = some (.int .i64 0) := (blk_cell BK101.out 0).trans rfl; have hcz5_1 : w4.cell? ⟨gb101, 1, none⟩ = some (.int .i64 0) := (blk_cell BK101.out 1).trans rfl; have hcz5_2 : w4.cell? ⟨gb101, 2, none⟩ = some (.int .i64 0) := (blk_cell BK101.out 2).trans rfl; have hcz5_3 : w4.cell? ⟨gb101, 3, none⟩ = some (.int .i64 0) := (blk_cell BK101.out 3).trans rfl; have hcz5_4 : w4.cell? ⟨gb101, 4, none⟩ = some (.int .i64 0) := (blk_cell BK101.out 4).trans rfl; have hcz5_5 : w4.cell? ⟨gb101, 5, none⟩ = some (.int .i64 0) := (blk_cell BK101.out 5).trans rfl; have hcz5_6 : w4.cell? ⟨gb101, 6, none⟩ = some (.int .i64 0) := (blk_cell BK101.out 6).trans rfl; have hcz5_7 : w4.cell? ⟨gb101, 7, none⟩ = some (.int .i64 0) := (blk_cell BK101.out 7).trans rfl; have hcz5_8 : w4.cell? ⟨gb101, 8, none⟩ = some (.int .i64 0) := (blk_cell BK101.out 8).trans rfl; have hcz5_9 : w4.cell? ⟨gb101, 9, none⟩ = some (.int .i64 0) := (blk_cell BK101.out 9).trans rfl; have hcz5_10 : w4.cell? ⟨gb101, 10, none⟩ = some (.bool false) := (blk_cell BK101.out 10).trans rfl; have hcz5_11 : w4.cell? ⟨gb101, 11, none⟩ = some (.int .i64 0) := (blk_cell BK101.out 11).trans rfl; have hfz5_0 := blk_frozen BK101.out 0; have hfz5_1 := blk_frozen BK101.out 1; have hfz5_2 := blk_frozen BK101.out 2; have hfz5_3 := blk_frozen BK101.out 3; have hfz5_4 := blk_frozen BK101.out 4; have hfz5_5 := blk_frozen BK101.out 5; have hfz5_6 := blk_frozen BK101.out 6; have hfz5_7 := blk_frozen BK101.out 7; have hfz5_8 := blk_frozen BK101.out 8; have hfz5_9 := blk_frozen BK101.out 9; have hfz5_10 := blk_frozen BK101.out 10; have hfz5_11 := blk_frozen BK101.out 11) | ((with_reducible refine gate_dst (N := 6) rfl ?_); (try (refine gate_guard (by rfl) ?_; dsimp only)); refine Kd.R_lit k54 _ 54 ?hg (N := 6) ?hd (xs := ([(⟨4, 0, 0, (⟨1, 2⟩ : S34), (⟨0, 0⟩ : S34), 3, 0, 0, false, 0⟩ : S54), (⟨4, 0, 0, (⟨1, 2⟩ : S34), (⟨0, 0⟩ : S34), 3, 0, 0, false, 0⟩ : S54)] : List (S54))) (inner := [.int .i64 4, .int .i64 0, .int .i64 0, .int .i64 1, .int .i64 2, .int .i64 0, .int .i64 0, .int .i64 3, .int .i64 0, .int .i64 0, .bool false, .int .i64 0, .int .i64 4, .int .i64 0, .int .i64 0, .int .i64 1, .int .i64 2, .int .i64 0, .int .i64 0, .int .i64 3, .int .i64 0, .int .i64 0, .bool false, .int .i64 0]) (ok := fun _ => True) (okp := fun _ => True) ?hr ?hp (fun _ hk => hk) trivial (Below.refl _ _) (Nat.le_refl _) (by simp) ?_; (case hd => rfl); (case hg => rfl); (case hr => first | (go_simp; done) | (go_simp; rfl)); (case hp => exact (Reps.front (show Kd.M k54 _ _ _ (⟨4, 0, 0, (⟨1, 2⟩ : S34), (⟨0, 0⟩ : S34), 3, 0, 0, false, 0⟩ : S54) [.int .i64 4, .int .i64 0, .int .i64 0, .int .i64 1, .int .i64 2, .int .i64 0, .int .i64 0, .int .i64 3, .int .i64 0, .int .i64 0, .bool false, .int .i64 0] from (k54_mkM _ _ _ (⟨4, 0, 0, (⟨1, 2⟩ : S34), (⟨0, 0⟩ : S34), 3, 0, 0, false, 0⟩ : S54) )) rfl (Reps.front (show Kd.M k54 _ _ _ (⟨4, 0, 0, (⟨1, 2⟩ : S34), (⟨0, 0⟩ : S34), 3, 0, 0, false, 0⟩ : S54) [.int .i64 4, .int .i64 0, .int .i64 0, .int .i64 1, .int .i64 2, .int .i64 0, .int .i64 0, .int .i64 3, .int .i64 0, .int .i64 0, .bool false, .int .i64 0] from (k54_mkM _ _ _ (⟨4, 0, 0, (⟨1, 2⟩ : S34), (⟨0, 0⟩ : S34), 3, 0, 0, false, 0⟩ : S54) )) rfl (Reps.none _ _) rfl) rfl)); intro v103 w6 ho7 hb hg_ hnew_; clear hg_ hnew_; (first | rw [← Ny102.out] at ho7 | (simp only [Int.reduceToNat] at ho7; rw [← Ny102.out] at ho7)); have n0_ := Aside0.mk (Kd.R_lower (Kd.R_newB ho7 (g := gb101) (o := .cells #[.int .i64 4, .int .i64 0, .int .i64 0, .int .i64 1, .int .i64 2, .int .i64 0, .int .i64 0, .int .i64 3, .int .i64 0, .int .i64 0, .bool false, .int .i64 0] 54 (0, 0)) (by (with_reducible repeat (first | refine blk_drewN ?_ _ | refine blk_drew ?_ | refine blk_alloc ?_ _)); refine blk_put (cs := #[.int .i64 4, .int .i64 0, .int .i64 0, .int .i64 1, .int .i64 2, .int .i64 0, .int .i64 0, .int .i64 3, .int .i64 0, .int .i64 0, .bool false, .int .i64 0]) ?_ 11 _ rfl; (with_reducible repeat (first | refine blk_drewN ?_ _ | refine blk_drew ?_ | refine blk_alloc ?_ _)); refine blk_put (cs := #[.int .i64 4, .int .i64 0, .int .i64 0, .int .i64 1, .int .i64 2, .int .i64 0, .int .i64 0, .int .i64 3, .int .i64 0, .int .i64 0, .bool false, .int .i64 0]) ?_ 10 _ rfl; (with_reducible repeat (first | refine blk_drewN ?_ _ | refine blk_drew ?_ | refine blk_alloc ?_ _)); refine blk_put (cs := #[.int .i64 4, .int .i64 0, .int .i64 0, .int .i64 1, .int .i64 2, .int .i64 0, .int .i64 0, .int .i64 3, .int .i64 0, .int .i64 0, .bool false, .int .i64 0]) ?_ 9 _ rfl; (with_reducible repeat (first | refine blk_drewN ?_ _ | refine blk_drew ?_ | refine blk_alloc ?_ _)); refine blk_put (cs := #[.int .i64 4, .int .i64 0, .int .i64 0, .int .i64 1, .int .i64 2, .int .i64 0, .int .i64 0, .int .i64 3, .int .i64 0, .int .i64 0, .bool false, .int .i64 0]) ?_ 8 _ rfl; (with_reducible repeat (first | refine blk_drewN ?_ _ | refine blk_drew ?_ | refine blk_alloc ?_ _)); refine blk_put (cs := #[.int .i64 4, .int .i64 0, .int .i64 0, .int .i64 1, .int .i64 2, .int .i64 0, .int .i64 0, .int .i64 0, .int .i64 0, .int .i64 0, .bool false, .int .i64 0]) ?_ 7 _ rfl; (with_reducible repeat (first | refine blk_drewN ?_ _ | refine blk_drew ?_ | refine blk_alloc ?_ _)); refine blk_put (cs := #[.int .i64 4, .int .i64 0, .int .i64 0, .int .i64 1, .int .i64 2, .int .i64 0, .int .i64 0, .int .i64 0, .int .i64 0, .int .i64 0, .bool false, .int .i64 0]) ?_ 6 _ rfl; (with_reducible repeat (first | refine blk_drewN ?_ _ | refine blk_drew ?_ | refine blk_alloc ?_ _)); refine blk_put (cs := #[.int .i64 4, .int .i64 0, .int .i64 0, .int .i64 1, .int .i64 2, .int .i64 0, .int .i64 0, .int .i64 0, .int .i64 0, .int .i64 0, .bool false, .int .i64 0]) ?_ 5 _ rfl; (with_reducible repeat (first | refine blk_drewN ?_ _ | refine blk_drew ?_ | refine blk_alloc ?_ _)); refine blk_put (cs := #[.int .i64 4, .int .i64 0, .int .i64 0, .int .i64 1, .int .i64 0, .int .i64 0, .int .i64 0, .int .i64 0, .int .i64 0, .int .i64 0, .bool false, .int .i64 0]) ?_ 4 _ rfl; (with_reducible repeat (first | refine blk_drewN ?_ _ | refine blk_drew ?_ | refine blk_alloc ?_ _)); refine blk_put (cs := #[.int .i64 4, .int .i64 0, .int .i64 0, .int .i64 0, .int .i64 0, .int .i64 0, .int .i64 0, .int .i64 0, .int .i64 0, .int .i64 0, .bool false, .int .i64 0]) ?_ 3 _ rfl; (with_reducible repeat (first | refine blk_drewN ?_ _ | refine blk_drew ?_ | refine blk_alloc ?_ _)); refine blk_put (cs := #[.int .i64 4, .int .i64 0, .int .i64 0, .int .i64 0, .int .i64 0, .int .i64 0, .int .i64 0, .int .i64 0, .int .i64 0, .int .i64 0, .bool false, .int .i64 0]) ?_ 2 _ rfl; (with_reducible repeat (first | refine blk_drewN ?_ _ | refine blk_drew ?_ | refine blk_alloc ?_ _)); refine blk_put (cs := #[.int .i64 4, .int .i64 0, .int .i64 0, .int .i64 0, .int .i64 0, .int .i64 0, .int .i64 0, .int .i64 0, .int .i64 0, .int .i64 0, .bool false, .int .i64 0]) ?_ 1 _ rfl; (with_reducible repeat (first | refine blk_drewN ?_ _ | refine blk_drew ?_ | refine blk_alloc ?_ _)); refine blk_put (cs := #[.int .i64 0, .int .i64 0, .int .i64 0, .int .i64 0, .int .i64 0, .int .i64 0, .int .i64 0, .int .i64 0, .int .i64 0, .int .i64 0, .bool false, .int .i64 0]) ?_ 0 _ rfl; (with_reducible repeat (first | refine blk_drewN ?_ _ | refine blk_drew ?_ | refine blk_alloc ?_ _)); exact BK101.out)) (below_size (by repeat (first | (with_reducible first | exact HB.out | apply below_alloc | apply pw_below_drewN | apply below_drew1 | refine below_set ?_ GE101.out) | exact HB.out)))); have n1_ := Aside0.mk (blk_below (g := gb101) (o := .cells #[.int .i64 4, .int .i64 0, .int .i64 0, .int .i64 1, .int .i64 2, .int .i64 0, .int .i64 0, .int .i64 3, .int .i64 0, .int .i64 0, .bool false, .int .i64 0] 54 (0, 0)) (by (with_reducible repeat (first | refine blk_drewN ?_ _ | refine blk_drew ?_ | refine blk_alloc ?_ _)); refine blk_put (cs := #[.int .i64 4, .int .i64 0, .int .i64 0, .int .i64 1, .int .i64 2, .int .i64 0, .int .i64 0, .int .i64 3, .int .i64 0, .int .i64 0, .bool false, .int .i64 0]) ?_ 11 _ rfl; (with_reducible repeat (first | refine blk_drewN ?_ _ | refine blk_drew ?_ | refine blk_alloc ?_ _)); refine blk_put (cs := #[.int .i64 4, .int .i64 0, .int .i64 0, .int .i64 1, .int .i64 2, .int .i64 0, .int .i64 0, .int .i64 3, .int .i64 0, .int .i64 0, .bool false, .int .i64 0]) ?_ 10 _ rfl; (with_reducible repeat (first | refine blk_drewN ?_ _ | refine blk_drew ?_ | refine blk_alloc ?_ _)); refine blk_put (cs := #[.int .i64 4, .int .i64 0, .int .i64 0, .int .i64 1, .int .i64 2, .int .i64 0, .int .i64 0, .int .i64 3, .int .i64 0, .int .i64 0, .bool false, .int .i64 0]) ?_ 9 _ rfl; (with_reducible repeat (first | refine blk_drewN ?_ _ | refine blk_drew ?_ | refine blk_alloc ?_ _)); refine blk_put (cs := #[.int .i64 4, .int .i64 0, .int .i64 0, .int .i64 1, .int .i64 2, .int .i64 0, .int .i64 0, .int .i64 3, .int .i64 0, .int .i64 0, .bool false, .int .i64 0]) ?_ 8 _ rfl; (with_reducible repeat (first | refine blk_drewN ?_ _ | refine blk_drew ?_ | refine blk_alloc ?_ _)); refine blk_put (cs := #[.int .i64 4, .int .i64 0, .int .i64 0, .int .i64 1, .int .i64 2, .int .i64 0, .int .i64 0, .int .i64 0, .int .i64 0, .int .i64 0, .bool false, .int .i64 0]) ?_ 7 _ rfl; (with_reducible repeat (first | refine blk_drewN ?_ _ | refine blk_drew ?_ | refine blk_alloc ?_ _)); refine blk_put (cs := #[.int .i64 4, .int .i64 0, .int .i64 0, .int .i64 1, .int .i64 2, .int .i64 0, .int .i64 0, .int .i64 0, .int .i64 0, .int .i64 0, .bool false, .int .i64 0]) ?_ 6 _ rfl; (with_reducible repeat (first | refine blk_drewN ?_ _ | refine blk_drew ?_ | refine blk_alloc ?_ _)); refine blk_put (cs := #[.int .i64 4, .int .i64 0, .int .i64 0, .int .i64 1, .int .i64 2, .int .i64 0, .int .i64 0, .int .i64 0, .int .i64 0, .int .i64 0, .bool false, .int .i64 0]) ?_ 5 _ rfl; (with_reducible repeat (first | refine blk_drewN ?_ _ | refine blk_drew ?_ | refine blk_alloc ?_ _)); refine blk_put (cs := #[.int .i64 4, .int .i64 0, .int .i64 0, .int .i64 1, .int .i64 0, .int .i64 0, .int .i64 0, .int .i64 0, .int .i64 0, .int .i64 0, .bool false, .int .i64 0]) ?_ 4 _ rfl; (with_reducible repeat (first | refine blk_drewN ?_ _ | refine blk_drew ?_ | refine blk_alloc ?_ _)); refine blk_put (cs := #[.int .i64 4, .int .i64 0, .int .i64 0, .int .i64 0, .int .i64 0, .int .i64 0, .int .i64 0, .int .i64 0, .int .i64 0, .int .i64 0, .bool false, .int .i64 0]) ?_ 3 _ rfl; (with_reducible repeat (first | refine blk_drewN ?_ _ | refine blk_drew ?_ | refine blk_alloc ?_ _)); refine blk_put (cs := #[.int .i64 4, .int .i64 0, .int .i64 0, .int .i64 0, .int .i64 0, .int .i64 0, .int .i64 0, .int .i64 0, .int .i64 0, .int .i64 0, .bool false, .int .i64 0]) ?_ 2 _ rfl; (with_reducible repeat (first | refine blk_drewN ?_ _ | refine blk_drew ?_ | refine blk_alloc ?_ _)); refine blk_put (cs := #[.int .i64 4, .int .i64 0, .int .i64 0, .int .i64 0, .int .i64 0, .int .i64 0, .int .i64 0, .int .i64 0, .int .i64 0, .int .i64 0, .bool false, .int .i64 0]) ?_ 1 _ rfl; (with_reducible repeat (first | refine blk_drewN ?_ _ | refine blk_drew ?_ | refine blk_alloc ?_ _)); refine blk_put (cs := #[.int .i64 0, .int .i64 0, .int .i64 0, .int .i64 0, .int .i64 0, .int .i64 0, .int .i64 0, .int .i64 0, .int .i64 0, .int .i64 0, .bool false, .int .i64 0]) ?_ 0 _ rfl; (with_reducible repeat (first | refine blk_drewN ?_ _ | refine blk_drew ?_ | refine blk_alloc ?_ _)); exact BK101.out) hb); have n2_ := Aside0.mk (below_step (by repeat (first | (with_reducible first | exact HB.out | apply below_alloc | apply pw_below_drewN | apply below_drew1 | refine below_set ?_ GE101.out) | exact HB.out)) hb); clear BK101; clear HB; have HO104 := n0_; have BK101 := n1_; have HB := n2_; clear n0_ n1_ n2_; clear hb ho7; obtain ⟨Ao8, co8, eo8⟩ := Kd.R_slice HO104.out; subst eo8) | ((with_reducible refine gate_callee (f := 17) rfl ?_); refine goesL_ (some 7) rfl rfl Try.func17 (by kernel_rfl) rfl #[.slice Ao8 y102.length co8] rfl (by (try simp only [List.map_toArray, List.map_cons, List.map_nil]); first | done | rfl | (simp only [List.length_drop, List.length_take]; rfl)) ?_; (with_reducible refine (audit_Twice.calls _ _ y102 t105 _ ?side1 ?side2 A1.out).mono ?_); (case side1 => repeat (first | exact (Kd.R_reads' HO104.out).2.2 | (with_reducible refine Kd.C_alloc ?_ _) | (with_reducible refine Kd.C_drewN ?_ _) | (with_reducible refine Kd.C_drew ?_))); (case side2 => exact (Kd.R_reads' HO104.out).2.1); rintro e w9 ⟨rfl, hb⟩; refine ⟨_, rfl, ?_⟩; have n0_ := Aside0.mk (Kd.R_below (by (with_reducible repeat (first | apply Kd.R_alloc | apply Kd.R_drewN | apply Kd.R_drew)); exact HO104.out) hb); have n1_ := Aside0.mk (blk_below (g := gb101) (o := .cells #[.int .i64 4, .int .i64 0, .int .i64 0, .int .i64 1, .int .i64 2, .int .i64 0, .int .i64 0, .int .i64 3, .int .i64 0, .int .i64 0, .bool false, .int .i64 0] 54 (0, 0)) (by (with_reducible repeat (first | refine blk_drewN ?_ _ | refine blk_drew ?_ | refine blk_alloc ?_ _)); exact BK101.out) hb); have n2_ := Aside0.mk (below_step (by repeat (first | (with_reducible first | exact HB.out | apply below_alloc | apply pw_below_drewN | apply below_drew1 | refine below_set ?_ GE101.out) | exact HB.out)) hb); clear HO104; clear BK101; clear HB; have HO104 := n0_; have BK101 := n1_; have HB := n2_; clear n0_ n1_ n2_; (try clear hb); (try clear hb2); (try clear hk); (try clear hi); have hcz10_0 : w9.cell? ⟨gb101, 0, none⟩ = some (.int .i64 4) := (blk_cell BK101.out 0).trans rfl; have hcz10_1 : w9.cell? ⟨gb101, 1, none⟩ = some (.int .i64 0) := (blk_cell BK101.out 1).trans rfl; have hcz10_2 : w9.cell? ⟨gb101, 2, none⟩ = some (.int .i64 0) := (blk_cell BK101.out 2).trans rfl; have hcz10_3 : w9.cell? ⟨gb101, 3, none⟩ = some (.int .i64 1) := (blk_cell BK101.out 3).trans rfl; have hcz10_4 : w9.cell? ⟨gb101, 4, none⟩ = some (.int .i64 2) := (blk_cell BK101.out 4).trans rfl; have hcz10_5 : w9.cell? ⟨gb101, 5, none⟩ = some (.int .i64 0) := (blk_cell BK101.out 5).trans rfl; have hcz10_6 : w9.cell? ⟨gb101, 6, none⟩ = some (.int .i64 0) := (blk_cell BK101.out 6).trans rfl; have hcz10_7 : w9.cell? ⟨gb101, 7, none⟩ = some (.int .i64 3) := (blk_cell BK101.out 7).trans rfl; have hcz10_8 : w9.cell? ⟨gb101, 8, none⟩ = some (.int .i64 0) := (blk_cell BK101.out 8).trans rfl; have hcz10_9 : w9.cell? ⟨gb101, 9, none⟩ = some (.int .i64 0) := (blk_cell BK101.out 9).trans rfl; have hcz10_10 : w9.cell? ⟨gb101, 10, none⟩ = some (.bool false) := (blk_cell BK101.out 10).trans rfl; have hcz10_11 : w9.cell? ⟨gb101, 11, none⟩ = some (.int .i64 0) := (blk_cell BK101.out 11).trans rfl; have hfz10_0 := blk_frozen BK101.out 0; have hfz10_1 := blk_frozen BK101.out 1; have hfz10_2 := blk_frozen BK101.out 2; have hfz10_3 := blk_frozen BK101.out 3; have hfz10_4 := blk_frozen BK101.out 4; have hfz10_5 := blk_frozen BK101.out 5; have hfz10_6 := blk_frozen BK101.out 6; have hfz10_7 := blk_frozen BK101.out 7; have hfz10_8 := blk_frozen BK101.out 8; have hfz10_9 := blk_frozen BK101.out 9; have hfz10_10 := blk_frozen BK101.out 10; have hfz10_11 := blk_frozen BK101.out 11) | ((with_reducible refine gate_dst (N := 11) rfl ?_); (try (refine gate_guard (by rfl) ?_; dsimp only)); refine Kd.R_lit k54 _ 54 ?hg (N := 11) ?hd (xs := ([(⟨4, 0, 0, (⟨1, 2⟩ : S34), (⟨0, 0⟩ : S34), 3, 0, 0, false, 0⟩ : S54)] : List (S54))) (inner := [.int .i64 4, .int .i64 0, .int .i64 0, .int .i64 1, .int .i64 2, .int .i64 0, .int .i64 0, .int .i64 3, .int .i64 0, .int .i64 0, .bool false, .int .i64 0]) (ok := fun _ => True) (okp := fun _ => True) ?hr ?hp (fun _ hk => hk) trivial (Below.refl _ _) (Nat.le_refl _) (by simp) ?_; (case hd => rfl); (case hg => rfl); (case hr => first | (go_simp; done) | (go_simp; rfl)); (case hp => exact (Reps.front (show Kd.M k54 _ _ _ (⟨4, 0, 0, (⟨1, 2⟩ : S34), (⟨0, 0⟩ : S34), 3, 0, 0, false, 0⟩ : S54) [.int .i64 4, .int .i64 0, .int .i64 0, .int .i64 1, .int .i64 2, .int .i64 0, .int .i64 0, .int .i64 3, .int .i64 0, .int .i64 0, .bool false, .int .i64 0] from (k54_mkM _ _ _ (⟨4, 0, 0, (⟨1, 2⟩ : S34), (⟨0, 0⟩ : S34), 3, 0, 0, false, 0⟩ : S54) )) rfl (Reps.none _ _) rfl)); intro v107 w11 ho12 hb hg_ hnew_; clear hg_ hnew_; (first | rw [← Ny106.out] at ho12 | (simp only [Int.reduceToNat] at ho12; rw [← Ny106.out] at ho12)); have n0_ := Aside0.mk (Kd.R_elder' (by (with_reducible repeat (first | apply Kd.R_alloc | apply Kd.R_drewN | apply Kd.R_drew)); exact HO104.out) (Kd.R_base ho12) hb); have n1_ := Aside0.mk (Kd.R_lower (Kd.R_newB (Kd.R_new' ho12 (Kd.R_lt (by (with_reducible repeat (first | apply Kd.R_alloc | apply Kd.R_drewN | apply Kd.R_drew)); exact HO104.out))) (g := gb101) (o := .cells #[.int .i64 4, .int .i64 0, .int .i64 0, .int .i64 1, .int .i64 2, .int .i64 0, .int .i64 0, .int .i64 3, .int .i64 0, .int .i64 0, .bool false, .int .i64 0] 54 (0, 0)) (by (with_reducible repeat (first | refine blk_drewN ?_ _ | refine blk_drew ?_ | refine blk_alloc ?_ _)); exact BK101.out)) (below_size (by repeat (first | (with_reducible first | exact HB.out | apply below_alloc | apply pw_below_drewN | apply below_drew1 | refine below_set ?_ GE101.out) | exact HB.out)))); have n2_ := Aside0.mk (blk_below (g := gb101) (o := .cells #[.int .i64 4, .int .i64 0, .int .i64 0, .int .i64 1, .int .i64 2, .int .i64 0, .int .i64 0, .int .i64 3, .int .i64 0, .int .i64 0, .bool false, .int .i64 0] 54 (0, 0)) (by (with_reducible repeat (first | refine blk_drewN ?_ _ | refine blk_drew ?_ | refine blk_alloc ?_ _)); exact BK101.out) hb); have n3_ := Aside0.mk (below_step (by repeat (first | (with_reducible first | exact HB.out | apply below_alloc | apply pw_below_drewN | apply below_drew1 | refine below_set ?_ GE101.out) | exact HB.out)) hb); clear HO104; clear BK101; clear HB; have HO104 := n0_; have HO108 := n1_; have BK101 := n2_; have HB := n3_; clear n0_ n1_ n2_ n3_; clear hb ho12; obtain ⟨Ao13, co13, eo13⟩ := Kd.R_slice HO108.out; subst eo13) | (go_at_call 17; (with_reducible refine (audit_Twice.calls _ _ y106 t109 _ ?side1 ?side2 A3.out).mono ?_); (case side1 => repeat (first | exact (Kd.R_reads' HO108.out).2.2 | (with_reducible refine Kd.C_alloc ?_ _) | (with_reducible refine Kd.C_drewN ?_ _) | (with_reducible refine Kd.C_drew ?_))); (case side2 => exact (Kd.R_reads' HO108.out).2.1); rintro e w14 ⟨rfl, hb⟩; have n0_ := Aside0.mk (Kd.R_below (by (with_reducible repeat (first | apply Kd.R_alloc | apply Kd.R_drewN | apply Kd.R_drew)); exact HO104.out) hb); have n1_ := Aside0.mk (Kd.R_below (by (with_reducible repeat (first | apply Kd.R_alloc | apply Kd.R_drewN | apply Kd.R_drew)); exact HO108.out) hb); have n2_ := Aside0.mk (blk_below (g := gb101) (o := .cells #[.int .i64 4, .int .i64 0, .int .i64 0, .int .i64 1, .int .i64 2, .int .i64 0, .int .i64 0, .int .i64 3, .int .i64 0, .int .i64 0, .bool false, .int .i64 0] 54 (0, 0)) (by (with_reducible repeat (first | refine blk_drewN ?_ _ | refine blk_drew ?_ | refine blk_alloc ?_ _)); exact BK101.out) hb); have n3_ := Aside0.mk (below_step (by repeat (first | (with_reducible first | exact HB.out | apply below_alloc | apply pw_below_drewN | apply below_drew1 | refine below_set ?_ GE101.out) | exact HB.out)) hb); clear HO104; clear HO108; clear BK101; clear HB; have HO104 := n0_; have HO108 := n1_; have BK101 := n2_; have HB := n3_; clear n0_ n1_ n2_ n3_; (try clear hb); (try clear hb2); (try clear hk); (try clear hi)))
    go_ret
    exact ⟨by first | rfl | (simp [errW_none, errW_some] <;> rfl) | (simp [*, errW_none, errW_some] <;> rfl), by repeat (first | (with_reducible first | exact HB.out | apply below_alloc | apply pw_below_drewN | apply below_drew1 | refine below_set ?_ GE101.out) | exact HB.out)⟩
  · rw [if_neg c2] at H
    have c2b0 : (t105 == 1) = false := beq_eq_false_iff_ne.mpr c2
    have c2b1 : (t105 != 1) = true := bne_iff_ne.mpr c2
    obtain rfl := Option.some.inj H
    go_enter Try.func15, Try.ntmps15
    go_wp2_with (first | ((with_reducible refine gate_dst (N := 1) rfl ?_); (try (refine gate_guard (by rfl) ?_; dsimp only)); refine box_event ?hg (N := 1) ?hd (cs := #[.int .i64 0, .int .i64 0, .int .i64 0, .int .i64 0, .int .i64 0, .int .i64 0, .int .i64 0, .int .i64 0, .int .i64 0, .int .i64 0, .bool false, .int .i64 0]) (t := 54) ?hr ?_; (case hd => rfl); (case hg => rfl); (case hr => first | (go_simp; done) | (go_simp; rfl)); intro gb101 hg w15 hbox hb; have n0_ := Aside0.mk (below_step (by repeat (first | (with_reducible first | exact HB.out | apply below_alloc | apply pw_below_drewN | apply below_drew1) | exact HB.out)) hb); have n1_ := Aside0.mk (hbox); have n2_ := Aside0.mk ((by rw [hg]; exact (below_size (by repeat (first | (with_reducible first | exact HB.out | apply below_alloc | apply pw_below_drewN | apply below_drew1) | exact HB.out))) : w.heap.size ≤ gb101)); have n3_ := Aside0.mk ((by rw [hg]; exact (below_size (by repeat (first | (with_reducible first | exact HB.out | apply below_alloc | apply pw_below_drewN | apply below_drew1) | exact HB.out))) : w.heap.size ≤ gb101)); clear HB; have HB := n0_; have BK101 := n1_; have GW101 := n2_; have GE101 := n3_; clear n0_ n1_ n2_ n3_; clear hb hbox hg; have hcz16_0 : w15.cell? ⟨gb101, 0, none⟩ = some (.int .i64 0) := (blk_cell BK101.out 0).trans rfl; have hcz16_1 : w15.cell? ⟨gb101, 1, none⟩ = some (.int .i64 0) := (blk_cell BK101.out 1).trans rfl; have hcz16_2 : w15.cell? ⟨gb101, 2, none⟩ = some (.int .i64 0) := (blk_cell BK101.out 2).trans rfl; have hcz16_3 : w15.cell? ⟨gb101, 3, none⟩ = some (.int .i64 0) := (blk_cell BK101.out 3).trans rfl; have hcz16_4 : w15.cell? ⟨gb101, 4, none⟩ = some (.int .i64 0) := (blk_cell BK101.out 4).trans rfl; have hcz16_5 : w15.cell? ⟨gb101, 5, none⟩ = some (.int .i64 0) := (blk_cell BK101.out 5).trans rfl; have hcz16_6 : w15.cell? ⟨gb101, 6, none⟩ = some (.int .i64 0) := (blk_cell BK101.out 6).trans rfl; have hcz16_7 : w15.cell? ⟨gb101, 7, none⟩ = some (.int .i64 0) := (blk_cell BK101.out 7).trans rfl; have hcz16_8 : w15.cell? ⟨gb101, 8, none⟩ = some (.int .i64 0) := (blk_cell BK101.out 8).trans rfl; have hcz16_9 : w15.cell? ⟨gb101, 9, none⟩ = some (.int .i64 0) := (blk_cell BK101.out 9).trans rfl; have hcz16_10 : w15.cell? ⟨gb101, 10, none⟩ = some (.bool false) := (blk_cell BK101.out 10).trans rfl; have hcz16_11 : w15.cell? ⟨gb101, 11, none⟩ = some (.int .i64 0) := (blk_cell BK101.out 11).trans rfl; have hfz16_0 := blk_frozen BK101.out 0; have hfz16_1 := blk_frozen BK101.out 1; have hfz16_2 := blk_frozen BK101.out 2; have hfz16_3 := blk_frozen BK101.out 3; have hfz16_4 := blk_frozen BK101.out 4; have hfz16_5 := blk_frozen BK101.out 5; have hfz16_6 := blk_frozen BK101.out 6; have hfz16_7 := blk_frozen BK101.out 7; have hfz16_8 := blk_frozen BK101.out 8; have hfz16_9 := blk_frozen BK101.out 9; have hfz16_10 := blk_frozen BK101.out 10; have hfz16_11 := blk_frozen BK101.out 11) | ((with_reducible refine gate_dst (N := 6) rfl ?_); (try (refine gate_guard (by rfl) ?_; dsimp only)); refine Kd.R_lit k54 _ 54 ?hg (N := 6) ?hd (xs := ([(⟨4, 0, 0, (⟨1, 2⟩ : S34), (⟨0, 0⟩ : S34), 3, 0, 0, false, 0⟩ : S54), (⟨4, 0, 0, (⟨1, 2⟩ : S34), (⟨0, 0⟩ : S34), 3, 0, 0, false, 0⟩ : S54)] : List (S54))) (inner := [.int .i64 4, .int .i64 0, .int .i64 0, .int .i64 1, .int .i64 2, .int .i64 0, .int .i64 0, .int .i64 3, .int .i64 0, .int .i64 0, .bool false, .int .i64 0, .int .i64 4, .int .i64 0, .int .i64 0, .int .i64 1, .int .i64 2, .int .i64 0, .int .i64 0, .int .i64 3, .int .i64 0, .int .i64 0, .bool false, .int .i64 0]) (ok := fun _ => True) (okp := fun _ => True) ?hr ?hp (fun _ hk => hk) trivial (Below.refl _ _) (Nat.le_refl _) (by simp) ?_; (case hd => rfl); (case hg => rfl); (case hr => first | (go_simp; done) | (go_simp; rfl)); (case hp => exact (Reps.front (show Kd.M k54 _ _ _ (⟨4, 0, 0, (⟨1, 2⟩ : S34), (⟨0, 0⟩ : S34), 3, 0, 0, false, 0⟩ : S54) [.int .i64 4, .int .i64 0, .int .i64 0, .int .i64 1, .int .i64 2, .int .i64 0, .int .i64 0, .int .i64 3, .int .i64 0, .int .i64 0, .bool false, .int .i64 0] from (k54_mkM _ _ _ (⟨4, 0, 0, (⟨1, 2⟩ : S34), (⟨0, 0⟩ : S34), 3, 0, 0, false, 0⟩ : S54) )) rfl (Reps.front (show Kd.M k54 _ _ _ (⟨4, 0, 0, (⟨1, 2⟩ : S34), (⟨0, 0⟩ : S34), 3, 0, 0, false, 0⟩ : S54) [.int .i64 4, .int .i64 0, .int .i64 0, .int .i64 1, .int .i64 2, .int .i64 0, .int .i64 0, .int .i64 3, .int .i64 0, .int .i64 0, .bool false, .int .i64 0] from (k54_mkM _ _ _ (⟨4, 0, 0, (⟨1, 2⟩ : S34), (⟨0, 0⟩ : S34), 3, 0, 0, false, 0⟩ : S54) )) rfl (Reps.none _ _) rfl) rfl)); intro v103 w17 ho18 hb hg_ hnew_; clear hg_ hnew_; (first | rw [← Ny102.out] at ho18 | (simp only [Int.reduceToNat] at ho18; rw [← Ny102.out] at ho18)); have n0_ := Aside0.mk (Kd.R_lower (Kd.R_newB ho18 (g := gb101) (o := .cells #[.int .i64 4, .int .i64 0, .int .i64 0, .int .i64 1, .int .i64 2, .int .i64 0, .int .i64 0, .int .i64 3, .int .i64 0, .int .i64 0, .bool false, .int .i64 0] 54 (0, 0)) (by (with_reducible repeat (first | refine blk_drewN ?_ _ | refine blk_drew ?_ | refine blk_alloc ?_ _)); refine blk_put (cs := #[.int .i64 4, .int .i64 0, .int .i64 0, .int .i64 1, .int .i64 2, .int .i64 0, .int .i64 0, .int .i64 3, .int .i64 0, .int .i64 0, .bool false, .int .i64 0]) ?_ 11 _ rfl; (with_reducible repeat (first | refine blk_drewN ?_ _ | refine blk_drew ?_ | refine blk_alloc ?_ _)); refine blk_put (cs := #[.int .i64 4, .int .i64 0, .int .i64 0, .int .i64 1, .int .i64 2, .int .i64 0, .int .i64 0, .int .i64 3, .int .i64 0, .int .i64 0, .bool false, .int .i64 0]) ?_ 10 _ rfl; (with_reducible repeat (first | refine blk_drewN ?_ _ | refine blk_drew ?_ | refine blk_alloc ?_ _)); refine blk_put (cs := #[.int .i64 4, .int .i64 0, .int .i64 0, .int .i64 1, .int .i64 2, .int .i64 0, .int .i64 0, .int .i64 3, .int .i64 0, .int .i64 0, .bool false, .int .i64 0]) ?_ 9 _ rfl; (with_reducible repeat (first | refine blk_drewN ?_ _ | refine blk_drew ?_ | refine blk_alloc ?_ _)); refine blk_put (cs := #[.int .i64 4, .int .i64 0, .int .i64 0, .int .i64 1, .int .i64 2, .int .i64 0, .int .i64 0, .int .i64 3, .int .i64 0, .int .i64 0, .bool false, .int .i64 0]) ?_ 8 _ rfl; (with_reducible repeat (first | refine blk_drewN ?_ _ | refine blk_drew ?_ | refine blk_alloc ?_ _)); refine blk_put (cs := #[.int .i64 4, .int .i64 0, .int .i64 0, .int .i64 1, .int .i64 2, .int .i64 0, .int .i64 0, .int .i64 0, .int .i64 0, .int .i64 0, .bool false, .int .i64 0]) ?_ 7 _ rfl; (with_reducible repeat (first | refine blk_drewN ?_ _ | refine blk_drew ?_ | refine blk_alloc ?_ _)); refine blk_put (cs := #[.int .i64 4, .int .i64 0, .int .i64 0, .int .i64 1, .int .i64 2, .int .i64 0, .int .i64 0, .int .i64 0, .int .i64 0, .int .i64 0, .bool false, .int .i64 0]) ?_ 6 _ rfl; (with_reducible repeat (first | refine blk_drewN ?_ _ | refine blk_drew ?_ | refine blk_alloc ?_ _)); refine blk_put (cs := #[.int .i64 4, .int .i64 0, .int .i64 0, .int .i64 1, .int .i64 2, .int .i64 0, .int .i64 0, .int .i64 0, .int .i64 0, .int .i64 0, .bool false, .int .i64 0]) ?_ 5 _ rfl; (with_reducible repeat (first | refine blk_drewN ?_ _ | refine blk_drew ?_ | refine blk_alloc ?_ _)); refine blk_put (cs := #[.int .i64 4, .int .i64 0, .int .i64 0, .int .i64 1, .int .i64 0, .int .i64 0, .int .i64 0, .int .i64 0, .int .i64 0, .int .i64 0, .bool false, .int .i64 0]) ?_ 4 _ rfl; (with_reducible repeat (first | refine blk_drewN ?_ _ | refine blk_drew ?_ | refine blk_alloc ?_ _)); refine blk_put (cs := #[.int .i64 4, .int .i64 0, .int .i64 0, .int .i64 0, .int .i64 0, .int .i64 0, .int .i64 0, .int .i64 0, .int .i64 0, .int .i64 0, .bool false, .int .i64 0]) ?_ 3 _ rfl; (with_reducible repeat (first | refine blk_drewN ?_ _ | refine blk_drew ?_ | refine blk_alloc ?_ _)); refine blk_put (cs := #[.int .i64 4, .int .i64 0, .int .i64 0, .int .i64 0, .int .i64 0, .int .i64 0, .int .i64 0, .int .i64 0, .int .i64 0, .int .i64 0, .bool false, .int .i64 0]) ?_ 2 _ rfl; (with_reducible repeat (first | refine blk_drewN ?_ _ | refine blk_drew ?_ | refine blk_alloc ?_ _)); refine blk_put (cs := #[.int .i64 4, .int .i64 0, .int .i64 0, .int .i64 0, .int .i64 0, .int .i64 0, .int .i64 0, .int .i64 0, .int .i64 0, .int .i64 0, .bool false, .int .i64 0]) ?_ 1 _ rfl; (with_reducible repeat (first | refine blk_drewN ?_ _ | refine blk_drew ?_ | refine blk_alloc ?_ _)); refine blk_put (cs := #[.int .i64 0, .int .i64 0, .int .i64 0, .int .i64 0, .int .i64 0, .int .i64 0, .int .i64 0, .int .i64 0, .int .i64 0, .int .i64 0, .bool false, .int .i64 0]) ?_ 0 _ rfl; (with_reducible repeat (first | refine blk_drewN ?_ _ | refine blk_drew ?_ | refine blk_alloc ?_ _)); exact BK101.out)) (below_size (by repeat (first | (with_reducible first | exact HB.out | apply below_alloc | apply pw_below_drewN | apply below_drew1 | refine below_set ?_ GE101.out) | exact HB.out)))); have n1_ := Aside0.mk (blk_below (g := gb101) (o := .cells #[.int .i64 4, .int .i64 0, .int .i64 0, .int .i64 1, .int .i64 2, .int .i64 0, .int .i64 0, .int .i64 3, .int .i64 0, .int .i64 0, .bool false, .int .i64 0] 54 (0, 0)) (by (with_reducible repeat (first | refine blk_drewN ?_ _ | refine blk_drew ?_ | refine blk_alloc ?_ _)); refine blk_put (cs := #[.int .i64 4, .int .i64 0, .int .i64 0, .int .i64 1, .int .i64 2, .int .i64 0, .int .i64 0, .int .i64 3, .int .i64 0, .int .i64 0, .bool false, .int .i64 0]) ?_ 11 _ rfl; (with_reducible repeat (first | refine blk_drewN ?_ _ | refine blk_drew ?_ | refine blk_alloc ?_ _)); refine blk_put (cs := #[.int .i64 4, .int .i64 0, .int .i64 0, .int .i64 1, .int .i64 2, .int .i64 0, .int .i64 0, .int .i64 3, .int .i64 0, .int .i64 0, .bool false, .int .i64 0]) ?_ 10 _ rfl; (with_reducible repeat (first | refine blk_drewN ?_ _ | refine blk_drew ?_ | refine blk_alloc ?_ _)); refine blk_put (cs := #[.int .i64 4, .int .i64 0, .int .i64 0, .int .i64 1, .int .i64 2, .int .i64 0, .int .i64 0, .int .i64 3, .int .i64 0, .int .i64 0, .bool false, .int .i64 0]) ?_ 9 _ rfl; (with_reducible repeat (first | refine blk_drewN ?_ _ | refine blk_drew ?_ | refine blk_alloc ?_ _)); refine blk_put (cs := #[.int .i64 4, .int .i64 0, .int .i64 0, .int .i64 1, .int .i64 2, .int .i64 0, .int .i64 0, .int .i64 3, .int .i64 0, .int .i64 0, .bool false, .int .i64 0]) ?_ 8 _ rfl; (with_reducible repeat (first | refine blk_drewN ?_ _ | refine blk_drew ?_ | refine blk_alloc ?_ _)); refine blk_put (cs := #[.int .i64 4, .int .i64 0, .int .i64 0, .int .i64 1, .int .i64 2, .int .i64 0, .int .i64 0, .int .i64 0, .int .i64 0, .int .i64 0, .bool false, .int .i64 0]) ?_ 7 _ rfl; (with_reducible repeat (first | refine blk_drewN ?_ _ | refine blk_drew ?_ | refine blk_alloc ?_ _)); refine blk_put (cs := #[.int .i64 4, .int .i64 0, .int .i64 0, .int .i64 1, .int .i64 2, .int .i64 0, .int .i64 0, .int .i64 0, .int .i64 0, .int .i64 0, .bool false, .int .i64 0]) ?_ 6 _ rfl; (with_reducible repeat (first | refine blk_drewN ?_ _ | refine blk_drew ?_ | refine blk_alloc ?_ _)); refine blk_put (cs := #[.int .i64 4, .int .i64 0, .int .i64 0, .int .i64 1, .int .i64 2, .int .i64 0, .int .i64 0, .int .i64 0, .int .i64 0, .int .i64 0, .bool false, .int .i64 0]) ?_ 5 _ rfl; (with_reducible repeat (first | refine blk_drewN ?_ _ | refine blk_drew ?_ | refine blk_alloc ?_ _)); refine blk_put (cs := #[.int .i64 4, .int .i64 0, .int .i64 0, .int .i64 1, .int .i64 0, .int .i64 0, .int .i64 0, .int .i64 0, .int .i64 0, .int .i64 0, .bool false, .int .i64 0]) ?_ 4 _ rfl; (with_reducible repeat (first | refine blk_drewN ?_ _ | refine blk_drew ?_ | refine blk_alloc ?_ _)); refine blk_put (cs := #[.int .i64 4, .int .i64 0, .int .i64 0, .int .i64 0, .int .i64 0, .int .i64 0, .int .i64 0, .int .i64 0, .int .i64 0, .int .i64 0, .bool false, .int .i64 0]) ?_ 3 _ rfl; (with_reducible repeat (first | refine blk_drewN ?_ _ | refine blk_drew ?_ | refine blk_alloc ?_ _)); refine blk_put (cs := #[.int .i64 4, .int .i64 0, .int .i64 0, .int .i64 0, .int .i64 0, .int .i64 0, .int .i64 0, .int .i64 0, .int .i64 0, .int .i64 0, .bool false, .int .i64 0]) ?_ 2 _ rfl; (with_reducible repeat (first | refine blk_drewN ?_ _ | refine blk_drew ?_ | refine blk_alloc ?_ _)); refine blk_put (cs := #[.int .i64 4, .int .i64 0, .int .i64 0, .int .i64 0, .int .i64 0, .int .i64 0, .int .i64 0, .int .i64 0, .int .i64 0, .int .i64 0, .bool false, .int .i64 0]) ?_ 1 _ rfl; (with_reducible repeat (first | refine blk_drewN ?_ _ | refine blk_drew ?_ | refine blk_alloc ?_ _)); refine blk_put (cs := #[.int .i64 0, .int .i64 0, .int .i64 0, .int .i64 0, .int .i64 0, .int .i64 0, .int .i64 0, .int .i64 0, .int .i64 0, .int .i64 0, .bool false, .int .i64 0]) ?_ 0 _ rfl; (with_reducible repeat (first | refine blk_drewN ?_ _ | refine blk_drew ?_ | refine blk_alloc ?_ _)); exact BK101.out) hb); have n2_ := Aside0.mk (below_step (by repeat (first | (with_reducible first | exact HB.out | apply below_alloc | apply pw_below_drewN | apply below_drew1 | refine below_set ?_ GE101.out) | exact HB.out)) hb); clear BK101; clear HB; have HO104 := n0_; have BK101 := n1_; have HB := n2_; clear n0_ n1_ n2_; clear hb ho18; obtain ⟨Ao19, co19, eo19⟩ := Kd.R_slice HO104.out; subst eo19) | ((with_reducible refine gate_callee (f := 17) rfl ?_); refine goesL_ (some 7) rfl rfl Try.func17 (by kernel_rfl) rfl #[.slice Ao19 y102.length co19] rfl (by (try simp only [List.map_toArray, List.map_cons, List.map_nil]); first | done | rfl | (simp only [List.length_drop, List.length_take]; rfl)) ?_; (with_reducible refine (audit_Twice.calls _ _ y102 t105 _ ?side1 ?side2 A1.out).mono ?_); (case side1 => repeat (first | exact (Kd.R_reads' HO104.out).2.2 | (with_reducible refine Kd.C_alloc ?_ _) | (with_reducible refine Kd.C_drewN ?_ _) | (with_reducible refine Kd.C_drew ?_))); (case side2 => exact (Kd.R_reads' HO104.out).2.1); rintro e w20 ⟨rfl, hb⟩; refine ⟨_, rfl, ?_⟩; have n0_ := Aside0.mk (Kd.R_below (by (with_reducible repeat (first | apply Kd.R_alloc | apply Kd.R_drewN | apply Kd.R_drew)); exact HO104.out) hb); have n1_ := Aside0.mk (blk_below (g := gb101) (o := .cells #[.int .i64 4, .int .i64 0, .int .i64 0, .int .i64 1, .int .i64 2, .int .i64 0, .int .i64 0, .int .i64 3, .int .i64 0, .int .i64 0, .bool false, .int .i64 0] 54 (0, 0)) (by (with_reducible repeat (first | refine blk_drewN ?_ _ | refine blk_drew ?_ | refine blk_alloc ?_ _)); exact BK101.out) hb); have n2_ := Aside0.mk (below_step (by repeat (first | (with_reducible first | exact HB.out | apply below_alloc | apply pw_below_drewN | apply below_drew1 | refine below_set ?_ GE101.out) | exact HB.out)) hb); clear HO104; clear BK101; clear HB; have HO104 := n0_; have BK101 := n1_; have HB := n2_; clear n0_ n1_ n2_; (try clear hb); (try clear hb2); (try clear hk); (try clear hi)))
    go_ret
    exact ⟨by first | rfl | (simp [errW_none, errW_some] <;> rfl) | (simp [*, errW_none, errW_some] <;> rfl), by repeat (first | (with_reducible first | exact HB.out | apply below_alloc | apply pw_below_drewN | apply below_drew1 | refine below_set ?_ GE101.out) | exact HB.out)⟩
def knelllaw11_Of.f (a0_0 : Int) (a0_1 : Int) (a0_2 : Int) (a0_3 : Int) (a0_4 : Int) (a0_5 : Int) (a0_6 : Int) (a0_7 : Int) (a0_8 : Int) (a0_9 : Int) (a0_10 : Bool) (a0_11 : Int) : Option (Int × Int × Int × Int × Int × Int × Int × Int × Int × Int × Bool × Int) := some (a0_0, a0_1, a0_2, a0_3, a0_4, a0_5, a0_6, a0_7, a0_8, a0_9, a0_10, a0_11)
set_option maxHeartbeats 8000000 in
set_option maxRecDepth 100000 in
theorem knelllaw11_Of.calls (a0_0 : Int) (a0_1 : Int) (a0_2 : Int) (a0_3 : Int) (a0_4 : Int) (a0_5 : Int) (a0_6 : Int) (a0_7 : Int) (a0_8 : Int) (a0_9 : Int) (a0_10 : Bool) (a0_11 : Int) (r1 : Int) (r2 : Int) (r3 : Int) (r4 : Int) (r5 : Int) (r6 : Int) (r7 : Int) (r8 : Int) (r9 : Int) (r10 : Int) (r11 : Bool) (r12 : Int) (w : World) (h : knelllaw11_Of.f a0_0 a0_1 a0_2 a0_3 a0_4 a0_5 a0_6 a0_7 a0_8 a0_9 a0_10 a0_11 = some (r1, r2, r3, r4, r5, r6, r7, r8, r9, r10, r11, r12)) :
    Calls Try.prog 30 #[.agg #[.int .i64 a0_0, .int .i64 a0_1, .int .i64 a0_2, .int .i64 a0_3, .int .i64 a0_4, .int .i64 a0_5, .int .i64 a0_6, .int .i64 a0_7, .int .i64 a0_8, .int .i64 a0_9, .bool a0_10, .int .i64 a0_11]] w fun e w' => e = .returned (.agg #[.int .i64 r1, .int .i64 r2, .int .i64 r3, .int .i64 r4, .int .i64 r5, .int .i64 r6, .int .i64 r7, .int .i64 r8, .int .i64 r9, .int .i64 r10, .bool r11, .int .i64 r12]) ∧ Below w.heap.size w w' := by
  have hu50 := Try.underlying50
  have hu54 := Try.underlying54
  have hu34 := Try.underlying34
  have HB := Aside0.mk (Below.refl w.heap.size w)
  have H : (some (a0_0, a0_1, a0_2, a0_3, a0_4, a0_5, a0_6, a0_7, a0_8, a0_9, a0_10, a0_11)) = some (r1, r2, r3, r4, r5, r6, r7, r8, r9, r10, r11, r12) := h
  clear h
  simp only [Option.some.injEq, Prod.mk.injEq] at H
  obtain ⟨rfl, rfl, rfl, rfl, rfl, rfl, rfl, rfl, rfl, rfl, rfl, rfl⟩ := H
  go_enter Try.func30, Try.ntmps30
  go_wp2_with (first | ((with_reducible refine gate_dst (N := 1) rfl ?_); refine box_event ?hg (N := 1) ?hd (cs := #[.int .i64 a0_0, .int .i64 a0_1, .int .i64 a0_2, .int .i64 a0_3, .int .i64 a0_4, .int .i64 a0_5, .int .i64 a0_6, .int .i64 a0_7, .int .i64 a0_8, .int .i64 a0_9, .bool a0_10, .int .i64 a0_11]) (t := 50) ?hr ?_; (case hd => rfl); (case hg => rfl); (case hr => first | (go_simp; done) | (go_simp; rfl)); intro gb110 hg w2 hbox hb; have n0_ := Aside0.mk (below_step (by repeat (first | (with_reducible first | exact HB.out | apply below_alloc | apply pw_below_drewN | apply below_drew1) | exact HB.out)) hb); have n1_ := Aside0.mk (hbox); have n2_ := Aside0.mk ((by rw [hg]; exact (below_size (by repeat (first | (with_reducible first | exact HB.out | apply below_alloc | apply pw_below_drewN | apply below_drew1) | exact HB.out))) : w.heap.size ≤ gb110)); have n3_ := Aside0.mk ((by rw [hg]; exact (below_size (by repeat (first | (with_reducible first | exact HB.out | apply below_alloc | apply pw_below_drewN | apply below_drew1) | exact HB.out))) : w.heap.size ≤ gb110)); clear HB; have HB := n0_; have BK110 := n1_; have GW110 := n2_; have GE110 := n3_; clear n0_ n1_ n2_ n3_; clear hb hbox hg) | ((with_reducible refine gate_dst (N := 2) rfl ?_); refine box_event ?hg (N := 2) ?hd (cs := #[.int .i64 0, .int .i64 0, .int .i64 0, .int .i64 0, .int .i64 0, .int .i64 0, .int .i64 0, .int .i64 0, .int .i64 0, .int .i64 0, .bool false, .int .i64 0]) (t := 54) ?hr ?_; (case hd => rfl); (case hg => rfl); (case hr => first | (go_simp; done) | (go_simp; rfl)); intro gb111 hg w3 hbox hb; have n0_ := Aside0.mk (blk_below (g := gb110) (o := .cells #[.int .i64 a0_0, .int .i64 a0_1, .int .i64 a0_2, .int .i64 a0_3, .int .i64 a0_4, .int .i64 a0_5, .int .i64 a0_6, .int .i64 a0_7, .int .i64 a0_8, .int .i64 a0_9, .bool a0_10, .int .i64 a0_11] 50 (0, 0)) (by (with_reducible repeat (first | refine blk_drewN ?_ _ | refine blk_drew ?_ | refine blk_alloc ?_ _)); exact BK110.out) hb); have n1_ := Aside0.mk (below_step (by repeat (first | (with_reducible first | exact HB.out | apply below_alloc | apply pw_below_drewN | apply below_drew1 | refine below_set ?_ GE110.out) | exact HB.out)) hb); have n2_ := Aside0.mk (hbox); have n3_ := Aside0.mk ((by rw [hg]; exact (below_size (by repeat (first | (with_reducible first | exact HB.out | apply below_alloc | apply pw_below_drewN | apply below_drew1 | refine below_set ?_ GE110.out) | exact HB.out))) : w.heap.size ≤ gb111)); have n4_ := Aside0.mk ((by rw [hg]; exact (below_size (by repeat (first | (with_reducible first | exact HB.out | apply below_alloc | apply pw_below_drewN | apply below_drew1 | refine below_set ?_ GE110.out) | exact HB.out))) : w.heap.size ≤ gb111)); have n5_ := Aside0.mk ((by rw [hg]; exact Nat.ne_of_lt (blk_lt (g := gb110) (o := .cells #[.int .i64 a0_0, .int .i64 a0_1, .int .i64 a0_2, .int .i64 a0_3, .int .i64 a0_4, .int .i64 a0_5, .int .i64 a0_6, .int .i64 a0_7, .int .i64 a0_8, .int .i64 a0_9, .bool a0_10, .int .i64 a0_11] 50 (0, 0)) (by (with_reducible repeat (first | refine blk_drewN ?_ _ | refine blk_drew ?_ | refine blk_alloc ?_ _)); exact BK110.out)) : gb110 ≠ gb111)); have n6_ := Aside0.mk ((by rw [hg]; exact Nat.ne_of_gt (blk_lt (g := gb110) (o := .cells #[.int .i64 a0_0, .int .i64 a0_1, .int .i64 a0_2, .int .i64 a0_3, .int .i64 a0_4, .int .i64 a0_5, .int .i64 a0_6, .int .i64 a0_7, .int .i64 a0_8, .int .i64 a0_9, .bool a0_10, .int .i64 a0_11] 50 (0, 0)) (by (with_reducible repeat (first | refine blk_drewN ?_ _ | refine blk_drew ?_ | refine blk_alloc ?_ _)); exact BK110.out)) : gb111 ≠ gb110)); clear BK110; clear HB; have BK110 := n0_; have HB := n1_; have BK111 := n2_; have GW111 := n3_; have GE111 := n4_; have NB110_111 := n5_; have NB111_110 := n6_; clear n0_ n1_ n2_ n3_ n4_ n5_ n6_; clear hb hbox hg; have hnb4 := NB110_111.out; have hnc4 := NB111_110.out; have hcz5_0 : w3.cell? ⟨gb110, 0, none⟩ = some (.int .i64 a0_0) := (blk_cell BK110.out 0).trans rfl; have hcz5_1 : w3.cell? ⟨gb110, 1, none⟩ = some (.int .i64 a0_1) := (blk_cell BK110.out 1).trans rfl; have hcz5_2 : w3.cell? ⟨gb110, 2, none⟩ = some (.int .i64 a0_2) := (blk_cell BK110.out 2).trans rfl; have hcz5_3 : w3.cell? ⟨gb110, 3, none⟩ = some (.int .i64 a0_3) := (blk_cell BK110.out 3).trans rfl; have hcz5_4 : w3.cell? ⟨gb110, 4, none⟩ = some (.int .i64 a0_4) := (blk_cell BK110.out 4).trans rfl; have hcz5_5 : w3.cell? ⟨gb110, 5, none⟩ = some (.int .i64 a0_5) := (blk_cell BK110.out 5).trans rfl; have hcz5_6 : w3.cell? ⟨gb110, 6, none⟩ = some (.int .i64 a0_6) := (blk_cell BK110.out 6).trans rfl; have hcz5_7 : w3.cell? ⟨gb110, 7, none⟩ = some (.int .i64 a0_7) := (blk_cell BK110.out 7).trans rfl; have hcz5_8 : w3.cell? ⟨gb110, 8, none⟩ = some (.int .i64 a0_8) := (blk_cell BK110.out 8).trans rfl; have hcz5_9 : w3.cell? ⟨gb110, 9, none⟩ = some (.int .i64 a0_9) := (blk_cell BK110.out 9).trans rfl; have hcz5_10 : w3.cell? ⟨gb110, 10, none⟩ = some (.bool a0_10) := (blk_cell BK110.out 10).trans rfl; have hcz5_11 : w3.cell? ⟨gb110, 11, none⟩ = some (.int .i64 a0_11) := (blk_cell BK110.out 11).trans rfl; have hfz5_0 := blk_frozen BK110.out 0; have hfz5_1 := blk_frozen BK110.out 1; have hfz5_2 := blk_frozen BK110.out 2; have hfz5_3 := blk_frozen BK110.out 3; have hfz5_4 := blk_frozen BK110.out 4; have hfz5_5 := blk_frozen BK110.out 5; have hfz5_6 := blk_frozen BK110.out 6; have hfz5_7 := blk_frozen BK110.out 7; have hfz5_8 := blk_frozen BK110.out 8; have hfz5_9 := blk_frozen BK110.out 9; have hfz5_10 := blk_frozen BK110.out 10; have hfz5_11 := blk_frozen BK110.out 11; have hcz6_0 : w3.cell? ⟨gb111, 0, none⟩ = some (.int .i64 0) := (blk_cell BK111.out 0).trans rfl; have hcz6_1 : w3.cell? ⟨gb111, 1, none⟩ = some (.int .i64 0) := (blk_cell BK111.out 1).trans rfl; have hcz6_2 : w3.cell? ⟨gb111, 2, none⟩ = some (.int .i64 0) := (blk_cell BK111.out 2).trans rfl; have hcz6_3 : w3.cell? ⟨gb111, 3, none⟩ = some (.int .i64 0) := (blk_cell BK111.out 3).trans rfl; have hcz6_4 : w3.cell? ⟨gb111, 4, none⟩ = some (.int .i64 0) := (blk_cell BK111.out 4).trans rfl; have hcz6_5 : w3.cell? ⟨gb111, 5, none⟩ = some (.int .i64 0) := (blk_cell BK111.out 5).trans rfl; have hcz6_6 : w3.cell? ⟨gb111, 6, none⟩ = some (.int .i64 0) := (blk_cell BK111.out 6).trans rfl; have hcz6_7 : w3.cell? ⟨gb111, 7, none⟩ = some (.int .i64 0) := (blk_cell BK111.out 7).trans rfl; have hcz6_8 : w3.cell? ⟨gb111, 8, none⟩ = some (.int .i64 0) := (blk_cell BK111.out 8).trans rfl; have hcz6_9 : w3.cell? ⟨gb111, 9, none⟩ = some (.int .i64 0) := (blk_cell BK111.out 9).trans rfl; have hcz6_10 : w3.cell? ⟨gb111, 10, none⟩ = some (.bool false) := (blk_cell BK111.out 10).trans rfl; have hcz6_11 : w3.cell? ⟨gb111, 11, none⟩ = some (.int .i64 0) := (blk_cell BK111.out 11).trans rfl; have hfz6_0 := blk_frozen BK111.out 0; have hfz6_1 := blk_frozen BK111.out 1; have hfz6_2 := blk_frozen BK111.out 2; have hfz6_3 := blk_frozen BK111.out 3; have hfz6_4 := blk_frozen BK111.out 4; have hfz6_5 := blk_frozen BK111.out 5; have hfz6_6 := blk_frozen BK111.out 6; have hfz6_7 := blk_frozen BK111.out 7; have hfz6_8 := blk_frozen BK111.out 8; have hfz6_9 := blk_frozen BK111.out 9; have hfz6_10 := blk_frozen BK111.out 10; have hfz6_11 := blk_frozen BK111.out 11))
  refine bodyPost_ret (results_cell_row rfl _ _ gb111 54 #[.int .i64 a0_0, .int .i64 a0_1, .int .i64 a0_2, .int .i64 a0_3, .int .i64 a0_4, .int .i64 a0_5, .int .i64 a0_6, .int .i64 a0_7, .int .i64 a0_8, .int .i64 a0_9, .bool a0_10, .int .i64 a0_11] (0, 0) _ rfl (by (with_reducible repeat (first | refine blk_drewN ?_ _ | refine blk_drew ?_ | refine blk_alloc ?_ _)); refine blk_put (cs := #[.int .i64 a0_0, .int .i64 a0_1, .int .i64 a0_2, .int .i64 a0_3, .int .i64 a0_4, .int .i64 a0_5, .int .i64 a0_6, .int .i64 a0_7, .int .i64 a0_8, .int .i64 a0_9, .bool a0_10, .int .i64 0]) ?_ 11 _ rfl; (with_reducible repeat (first | refine blk_drewN ?_ _ | refine blk_drew ?_ | refine blk_alloc ?_ _)); refine blk_put (cs := #[.int .i64 a0_0, .int .i64 a0_1, .int .i64 a0_2, .int .i64 a0_3, .int .i64 a0_4, .int .i64 a0_5, .int .i64 a0_6, .int .i64 a0_7, .int .i64 a0_8, .int .i64 a0_9, .bool false, .int .i64 0]) ?_ 10 _ rfl; (with_reducible repeat (first | refine blk_drewN ?_ _ | refine blk_drew ?_ | refine blk_alloc ?_ _)); refine blk_put (cs := #[.int .i64 a0_0, .int .i64 a0_1, .int .i64 a0_2, .int .i64 a0_3, .int .i64 a0_4, .int .i64 a0_5, .int .i64 a0_6, .int .i64 a0_7, .int .i64 a0_8, .int .i64 0, .bool false, .int .i64 0]) ?_ 9 _ rfl; (with_reducible repeat (first | refine blk_drewN ?_ _ | refine blk_drew ?_ | refine blk_alloc ?_ _)); refine blk_put (cs := #[.int .i64 a0_0, .int .i64 a0_1, .int .i64 a0_2, .int .i64 a0_3, .int .i64 a0_4, .int .i64 a0_5, .int .i64 a0_6, .int .i64 a0_7, .int .i64 0, .int .i64 0, .bool false, .int .i64 0]) ?_ 8 _ rfl; (with_reducible repeat (first | refine blk_drewN ?_ _ | refine blk_drew ?_ | refine blk_alloc ?_ _)); refine blk_put (cs := #[.int .i64 a0_0, .int .i64 a0_1, .int .i64 a0_2, .int .i64 a0_3, .int .i64 a0_4, .int .i64 a0_5, .int .i64 a0_6, .int .i64 0, .int .i64 0, .int .i64 0, .bool false, .int .i64 0]) ?_ 7 _ rfl; (with_reducible repeat (first | refine blk_drewN ?_ _ | refine blk_drew ?_ | refine blk_alloc ?_ _)); refine blk_put (cs := #[.int .i64 a0_0, .int .i64 a0_1, .int .i64 a0_2, .int .i64 a0_3, .int .i64 a0_4, .int .i64 a0_5, .int .i64 0, .int .i64 0, .int .i64 0, .int .i64 0, .bool false, .int .i64 0]) ?_ 6 _ rfl; (with_reducible repeat (first | refine blk_drewN ?_ _ | refine blk_drew ?_ | refine blk_alloc ?_ _)); refine blk_put (cs := #[.int .i64 a0_0, .int .i64 a0_1, .int .i64 a0_2, .int .i64 a0_3, .int .i64 a0_4, .int .i64 0, .int .i64 0, .int .i64 0, .int .i64 0, .int .i64 0, .bool false, .int .i64 0]) ?_ 5 _ rfl; (with_reducible repeat (first | refine blk_drewN ?_ _ | refine blk_drew ?_ | refine blk_alloc ?_ _)); refine blk_put (cs := #[.int .i64 a0_0, .int .i64 a0_1, .int .i64 a0_2, .int .i64 a0_3, .int .i64 0, .int .i64 0, .int .i64 0, .int .i64 0, .int .i64 0, .int .i64 0, .bool false, .int .i64 0]) ?_ 4 _ rfl; (with_reducible repeat (first | refine blk_drewN ?_ _ | refine blk_drew ?_ | refine blk_alloc ?_ _)); refine blk_put (cs := #[.int .i64 a0_0, .int .i64 a0_1, .int .i64 a0_2, .int .i64 0, .int .i64 0, .int .i64 0, .int .i64 0, .int .i64 0, .int .i64 0, .int .i64 0, .bool false, .int .i64 0]) ?_ 3 _ rfl; (with_reducible repeat (first | refine blk_drewN ?_ _ | refine blk_drew ?_ | refine blk_alloc ?_ _)); refine blk_put (cs := #[.int .i64 a0_0, .int .i64 a0_1, .int .i64 0, .int .i64 0, .int .i64 0, .int .i64 0, .int .i64 0, .int .i64 0, .int .i64 0, .int .i64 0, .bool false, .int .i64 0]) ?_ 2 _ rfl; (with_reducible repeat (first | refine blk_drewN ?_ _ | refine blk_drew ?_ | refine blk_alloc ?_ _)); refine blk_put (cs := #[.int .i64 a0_0, .int .i64 0, .int .i64 0, .int .i64 0, .int .i64 0, .int .i64 0, .int .i64 0, .int .i64 0, .int .i64 0, .int .i64 0, .bool false, .int .i64 0]) ?_ 1 _ rfl; (with_reducible repeat (first | refine blk_drewN ?_ _ | refine blk_drew ?_ | refine blk_alloc ?_ _)); refine blk_put (cs := #[.int .i64 0, .int .i64 0, .int .i64 0, .int .i64 0, .int .i64 0, .int .i64 0, .int .i64 0, .int .i64 0, .int .i64 0, .int .i64 0, .bool false, .int .i64 0]) ?_ 0 _ rfl; (with_reducible repeat (first | refine blk_drewN ?_ _ | refine blk_drew ?_ | refine blk_alloc ?_ _)); exact BK111.out) Try.underlying54 rfl (by kernel_rfl)) rfl ?_
  exact ⟨by first | rfl | (simp [errW_none, errW_some] <;> rfl) | (simp [*, errW_none, errW_some] <;> rfl), by repeat (first | (with_reducible first | exact HB.out | apply below_alloc | apply pw_below_drewN | apply below_drew1 | refine below_set ?_ GE110.out | refine below_set ?_ GE111.out) | exact HB.out)⟩
def knelllaw11_Ofs.l0 : Nat → List (S54) → List (S50) → Int → Int → Option ((List (S54)))
  | 0, _, _, _, _ => none
  | k + 1, x3, x6, x7, x8 => if x8 < x7 then (if 0 ≤ x8 then (if x8 < (x6.length : Int) then ((knelllaw11_Of.f ((rd_T50 x6 x8).f0) ((rd_T50 x6 x8).f1) ((rd_T50 x6 x8).f2) ((rd_T50 x6 x8).f3.f0) ((rd_T50 x6 x8).f3.f1) ((rd_T50 x6 x8).f4.f0) ((rd_T50 x6 x8).f4.f1) ((rd_T50 x6 x8).f5) ((rd_T50 x6 x8).f6) ((rd_T50 x6 x8).f7) ((rd_T50 x6 x8).f8) ((rd_T50 x6 x8).f9)).bind fun bt114 => (if x3.length < 1466015503701 then (knelllaw11_Ofs.l0 k (x3 ++ [(⟨bt114.1, bt114.2.1, bt114.2.2.1, (⟨bt114.2.2.2.1, bt114.2.2.2.2.1⟩ : S34), (⟨bt114.2.2.2.2.2.1, bt114.2.2.2.2.2.2.1⟩ : S34), bt114.2.2.2.2.2.2.2.1, bt114.2.2.2.2.2.2.2.2.1, bt114.2.2.2.2.2.2.2.2.2.1, bt114.2.2.2.2.2.2.2.2.2.2.1, bt114.2.2.2.2.2.2.2.2.2.2.2⟩ : S54)]) x6 x7 (wrap64 (x8 + 1))) else (none))) else (none)) else (none)) else (some x3)
def knelllaw11_Ofs.f (k : Nat) (l0 : List (S50)) : Option ((List (S54))) := knelllaw11_Ofs.l0 k ([] : List (S54)) l0 (l0.length : Int) 0
theorem knelllaw11_Ofs.mono_l : ∀ k, (∀ y0 y1 y2 y3, LeO (knelllaw11_Ofs.l0 k y0 y1 y2 y3) (knelllaw11_Ofs.l0 (k + 1) y0 y1 y2 y3))
  | 0 => fun _ _ _ _ r h => by simp [knelllaw11_Ofs.l0] at h
  | k + 1 => by
    have ih0 := knelllaw11_Ofs.mono_l k
    · intro y0 y1 y2 y3
      unfold knelllaw11_Ofs.l0
      repeat' first
      | (with_reducible exact ih0 _ _ _ _)
      | (with_reducible exact LeO.refl _)
      | (with_reducible exact LeO.none _)
      | (with_reducible refine LeO.ite ?_ ?_)
      | (with_reducible refine LeO.bind ?_ (fun _ => ?_))
      | exact ih0 _ _ _ _
      | exact LeO.none _
      | refine LeO.ite ?_ ?_
      | refine LeO.bind ?_ (fun _ => ?_)
theorem knelllaw11_Ofs.mono : ∀ a0 k, LeO (knelllaw11_Ofs.f k a0) (knelllaw11_Ofs.f (k + 1) a0) := by
  intro a0 k
  have ih0 := knelllaw11_Ofs.mono_l k
  unfold knelllaw11_Ofs.f
  repeat' first
      | (with_reducible exact ih0 _ _ _ _)
      | (with_reducible exact LeO.refl _)
      | (with_reducible exact LeO.none _)
      | (with_reducible refine LeO.ite ?_ ?_)
      | (with_reducible refine LeO.bind ?_ (fun _ => ?_))
      | exact ih0 _ _ _ _
      | exact LeO.none _
      | refine LeO.ite ?_ ?_
      | refine LeO.bind ?_ (fun _ => ?_)
set_option maxHeartbeats 8000000 in
set_option maxRecDepth 100000 in
theorem knelllaw11_Ofs.calls (k : Nat) (A0 : Option Addr) (c0 : Nat) (l0 : List (S50)) (r : List (S54)) (w : World) (hr0 : Kd.C k50 w A0 l0.length l0) (hc0 : l0.length ≤ c0) (h : knelllaw11_Ofs.f k l0 = some r) :
    Calls Try.prog 16 #[.slice A0 l0.length c0] w fun e w' => ∃ v0_ : Value, e = .returned (v0_) ∧ Kd.R k54 54 w' w.heap.size (fun _ => True) v0_ r ∧ Below w.heap.size w w' := by
  have hu50 := Try.underlying50
  have HR0 := Aside0.mk hr0
  have HC0 := Aside0.mk hc0
  clear hr0 hc0
  have HB := Aside0.mk (Below.refl w.heap.size w)
  have H : (knelllaw11_Ofs.l0 k ([] : List (S54)) l0 (l0.length : Int) 0) = some r := h
  clear h
  have H' := Aside0.mk H
  clear H
  go_enter Try.func16, Try.ntmps16
  go_wp2
  go_loopg [3, 8] k (fun kq v3 v8 w' => ∃ (x3_1 : List (S54)) (x8_1 : Int), v8 = .int .i64 x8_1 ∧ Aside0 (knelllaw11_Ofs.l0 kq x3_1 l0 (l0.length : Int) x8_1 = some r) ∧ Aside0 (kq ≤ k) ∧ Aside0 (Kd.R k54 54 w' w.heap.size (fun _ => True) v3 x3_1) ∧ Aside0 (Below w.heap.size w w'))
  case atStart => exact ⟨(([] : List (S54))), (0), (by first | rfl | (simp; done) | (simp [*]; done)), H', ⟨Nat.le_refl _⟩, ⟨by first | exact Kd.R_nil _ _ _ _ _ | exact Kd.N_nil _ _ _ _ _ | exact Kd.V_nil _ _ _ _ _ | exact Kd.Q_nil _ _ _ _ _ | exact Kd.S_nil _ _ _ _ _⟩, ⟨by repeat (first | (with_reducible first | exact HB.out | apply below_alloc | apply pw_below_drewN | apply below_drew1) | exact HB.out)⟩⟩
  case round =>
    clear H'
    try clear c1
    obtain ⟨x3_1, x8_1, rfl, HA, HK1, HO_3, HB⟩ := hrel
    cases gk with
    | zero => exact absurd HA.out (by simp [knelllaw11_Ofs.l0])
    | succ k1 =>
      have H := HA.out
      clear HA
      simp only [knelllaw11_Ofs.l0] at H
      by_cases c2 : x8_1 < (l0.length : Int)
      · rw [if_pos c2] at H
        have c2b0 : decide (x8_1 < (l0.length : Int)) = true := decide_eq_true c2
        clear c2
        by_cases c3 : 0 ≤ x8_1
        · rw [if_pos c3] at H
          have c3b0 : decide (0 ≤ x8_1) = true := decide_eq_true c3
          clear c3
          by_cases c4 : x8_1 < (l0.length : Int)
          · rw [if_pos c4] at H
            have c4b0 : decide (x8_1 < (l0.length : Int)) = true := decide_eq_true c4
            clear c4
            replace H := Option.bind_eq_some_iff.mp H
            obtain ⟨⟨t114, t115, t116, t117, t118, t119, t120, t121, t122, t123, t124, t125⟩, A50, H⟩ := H
            replace H : (if x3_1.length < 1466015503701 then (knelllaw11_Ofs.l0 k1 (x3_1 ++ [(⟨t114, t115, t116, (⟨t117, t118⟩ : S34), (⟨t119, t120⟩ : S34), t121, t122, t123, t124, t125⟩ : S54)]) l0 (l0.length : Int) (wrap64 (x8_1 + 1))) else (none)) = some r := H
            have A5 := Aside0.mk A50
            clear A50
            by_cases c6 : x3_1.length < 1466015503701
            · rw [if_pos c6] at H
              have LMc6 := Aside0.mk c6
              clear c6
              obtain ⟨y126, hy126⟩ : ∃ y_ : List (S54), y_ = (x3_1 ++ [(⟨t114, t115, t116, (⟨t117, t118⟩ : S34), (⟨t119, t120⟩ : S34), t121, t122, t123, t124, t125⟩ : S54)]) := ⟨_, rfl⟩
              replace H : (knelllaw11_Ofs.l0 k1 y126 l0 (l0.length : Int) (wrap64 (x8_1 + 1))) = some r := by first | (rw [hy126]; with_reducible exact H) | (have H2_ := (Option.bind_some _ _).symm.trans H; rw [hy126]; with_reducible exact H2_) | (have H2_ := (Option.bind_some _ _).symm.trans H; with_reducible exact H2_) | with_reducible exact H | (rw [hy126]; exact H) | exact H
              have Ny126 := Aside0.mk hy126
              clear hy126
              have H' := Aside0.mk H
              clear H
              have p112 : 0 ≤ (x8_1 : Int) := of_decide_eq_true (by first | (with_reducible assumption) | assumption)
              have q112 : x8_1 < (l0.length : Int) := of_decide_eq_true (by first | (with_reducible assumption) | assumption)
              obtain ⟨ad112, e112, hx112_0, hx112_1, hx112_2, hx112_3, hx112_4, hx112_5, hx112_6, hx112_7, hx112_8, hx112_9, hx112_10, hx112_11⟩ := at_T50 HR0.out x8_1 p112 q112
              cases e112
              replace hx112_0 := (HB.out.cell (World.block_lt_of_cell? w _ hx112_0)).trans hx112_0
              replace hx112_1 := (HB.out.cell (World.block_lt_of_cell? w _ hx112_1)).trans hx112_1
              replace hx112_2 := (HB.out.cell (World.block_lt_of_cell? w _ hx112_2)).trans hx112_2
              replace hx112_3 := (HB.out.cell (World.block_lt_of_cell? w _ hx112_3)).trans hx112_3
              replace hx112_4 := (HB.out.cell (World.block_lt_of_cell? w _ hx112_4)).trans hx112_4
              replace hx112_5 := (HB.out.cell (World.block_lt_of_cell? w _ hx112_5)).trans hx112_5
              replace hx112_6 := (HB.out.cell (World.block_lt_of_cell? w _ hx112_6)).trans hx112_6
              replace hx112_7 := (HB.out.cell (World.block_lt_of_cell? w _ hx112_7)).trans hx112_7
              replace hx112_8 := (HB.out.cell (World.block_lt_of_cell? w _ hx112_8)).trans hx112_8
              replace hx112_9 := (HB.out.cell (World.block_lt_of_cell? w _ hx112_9)).trans hx112_9
              replace hx112_10 := (HB.out.cell (World.block_lt_of_cell? w _ hx112_10)).trans hx112_10
              replace hx112_11 := (HB.out.cell (World.block_lt_of_cell? w _ hx112_11)).trans hx112_11
              replace p112 := eq_true p112
              replace q112 := eq_true q112
              go_wp2_with (first | ((with_reducible refine gate_dst (N := 5) rfl ?_); refine box_event ?hg (N := 5) ?hd (cs := #[.int .i64 0, .int .i64 0, .int .i64 0, .int .i64 0, .int .i64 0, .int .i64 0, .int .i64 0, .int .i64 0, .int .i64 0, .int .i64 0, .bool false, .int .i64 0]) (t := 50) ?hr ?_; (case hd => rfl); (case hg => rfl); (case hr => first | (go_simp; done) | (go_simp; rfl)); intro gb113 hg w7 hbox hb; have n0_ := Aside0.mk (Kd.R_below (by (with_reducible repeat (first | apply Kd.R_alloc | apply Kd.R_drewN | apply Kd.R_drew)); exact HO_3.out) hb); have n1_ := Aside0.mk (below_step (by repeat (first | (with_reducible first | exact HB.out | apply below_alloc | apply pw_below_drewN | apply below_drew1) | exact HB.out)) hb); have n2_ := Aside0.mk (hbox); have n3_ := Aside0.mk ((by rw [hg]; exact (below_size (by repeat (first | (with_reducible first | exact HB.out | apply below_alloc | apply pw_below_drewN | apply below_drew1) | exact HB.out))) : w.heap.size ≤ gb113)); have n4_ := Aside0.mk ((by rw [hg]; exact (below_size (by repeat (first | (with_reducible first | exact HB.out | apply below_alloc | apply pw_below_drewN | apply below_drew1) | exact HB.out))) : w.heap.size ≤ gb113)); clear HO_3; clear HB; have HO_3 := n0_; have HB := n1_; have BK113 := n2_; have GW113 := n3_; have GE113 := n4_; clear n0_ n1_ n2_ n3_ n4_; clear hb hbox hg; have hcz8_0 : w7.cell? ⟨gb113, 0, none⟩ = some (.int .i64 0) := (blk_cell BK113.out 0).trans rfl; have hcz8_1 : w7.cell? ⟨gb113, 1, none⟩ = some (.int .i64 0) := (blk_cell BK113.out 1).trans rfl; have hcz8_2 : w7.cell? ⟨gb113, 2, none⟩ = some (.int .i64 0) := (blk_cell BK113.out 2).trans rfl; have hcz8_3 : w7.cell? ⟨gb113, 3, none⟩ = some (.int .i64 0) := (blk_cell BK113.out 3).trans rfl; have hcz8_4 : w7.cell? ⟨gb113, 4, none⟩ = some (.int .i64 0) := (blk_cell BK113.out 4).trans rfl; have hcz8_5 : w7.cell? ⟨gb113, 5, none⟩ = some (.int .i64 0) := (blk_cell BK113.out 5).trans rfl; have hcz8_6 : w7.cell? ⟨gb113, 6, none⟩ = some (.int .i64 0) := (blk_cell BK113.out 6).trans rfl; have hcz8_7 : w7.cell? ⟨gb113, 7, none⟩ = some (.int .i64 0) := (blk_cell BK113.out 7).trans rfl; have hcz8_8 : w7.cell? ⟨gb113, 8, none⟩ = some (.int .i64 0) := (blk_cell BK113.out 8).trans rfl; have hcz8_9 : w7.cell? ⟨gb113, 9, none⟩ = some (.int .i64 0) := (blk_cell BK113.out 9).trans rfl; have hcz8_10 : w7.cell? ⟨gb113, 10, none⟩ = some (.bool false) := (blk_cell BK113.out 10).trans rfl; have hcz8_11 : w7.cell? ⟨gb113, 11, none⟩ = some (.int .i64 0) := (blk_cell BK113.out 11).trans rfl; have hfz8_0 := blk_frozen BK113.out 0; have hfz8_1 := blk_frozen BK113.out 1; have hfz8_2 := blk_frozen BK113.out 2; have hfz8_3 := blk_frozen BK113.out 3; have hfz8_4 := blk_frozen BK113.out 4; have hfz8_5 := blk_frozen BK113.out 5; have hfz8_6 := blk_frozen BK113.out 6; have hfz8_7 := blk_frozen BK113.out 7; have hfz8_8 := blk_frozen BK113.out 8; have hfz8_9 := blk_frozen BK113.out 9; have hfz8_10 := blk_frozen BK113.out 10; have hfz8_11 := blk_frozen BK113.out 11) | ((with_reducible refine gate_callee (f := 30) rfl ?_); refine goesL_ (some 14) rfl rfl Try.func30 (by kernel_rfl) rfl #[.agg #[.int .i64 ((rd_T50 l0 x8_1).f0), .int .i64 ((rd_T50 l0 x8_1).f1), .int .i64 ((rd_T50 l0 x8_1).f2), .int .i64 ((rd_T50 l0 x8_1).f3.f0), .int .i64 ((rd_T50 l0 x8_1).f3.f1), .int .i64 ((rd_T50 l0 x8_1).f4.f0), .int .i64 ((rd_T50 l0 x8_1).f4.f1), .int .i64 ((rd_T50 l0 x8_1).f5), .int .i64 ((rd_T50 l0 x8_1).f6), .int .i64 ((rd_T50 l0 x8_1).f7), .bool ((rd_T50 l0 x8_1).f8), .int .i64 ((rd_T50 l0 x8_1).f9)]] rfl (by (try simp only [List.map_toArray, List.map_cons, List.map_nil]); first | done | rfl | (simp only [List.length_drop, List.length_take]; rfl)) ?_; (with_reducible refine (knelllaw11_Of.calls ((rd_T50 l0 x8_1).f0) ((rd_T50 l0 x8_1).f1) ((rd_T50 l0 x8_1).f2) ((rd_T50 l0 x8_1).f3.f0) ((rd_T50 l0 x8_1).f3.f1) ((rd_T50 l0 x8_1).f4.f0) ((rd_T50 l0 x8_1).f4.f1) ((rd_T50 l0 x8_1).f5) ((rd_T50 l0 x8_1).f6) ((rd_T50 l0 x8_1).f7) ((rd_T50 l0 x8_1).f8) ((rd_T50 l0 x8_1).f9) t114 t115 t116 t117 t118 t119 t120 t121 t122 t123 t124 t125 _ A5.out).mono ?_); rintro e w9 ⟨rfl, hb⟩; refine ⟨_, rfl, ?_⟩; have n0_ := Aside0.mk (Kd.R_below (by (with_reducible repeat (first | apply Kd.R_alloc | apply Kd.R_drewN | apply Kd.R_drew)); exact (Kd.R_mono (Kd.R_far (p := ⟨gb113, 11, none⟩) (Kd.R_far (p := ⟨gb113, 10, none⟩) (Kd.R_far (p := ⟨gb113, 9, none⟩) (Kd.R_far (p := ⟨gb113, 8, none⟩) (Kd.R_far (p := ⟨gb113, 7, none⟩) (Kd.R_far (p := ⟨gb113, 6, none⟩) (Kd.R_far (p := ⟨gb113, 5, none⟩) (Kd.R_far (p := ⟨gb113, 4, none⟩) (Kd.R_far (p := ⟨gb113, 3, none⟩) (Kd.R_far (p := ⟨gb113, 2, none⟩) (Kd.R_far (p := ⟨gb113, 1, none⟩) (Kd.R_far (p := ⟨gb113, 0, none⟩) (Kd.R_types HO_3.out BK113.out (by decide)) (fun _ hk => hk.2) (.int .i64 ((rd_T50 l0 x8_1).f0))) (fun _ hk => hk.2) (.int .i64 ((rd_T50 l0 x8_1).f1))) (fun _ hk => hk.2) (.int .i64 ((rd_T50 l0 x8_1).f2))) (fun _ hk => hk.2) (.int .i64 ((rd_T50 l0 x8_1).f3.f0))) (fun _ hk => hk.2) (.int .i64 ((rd_T50 l0 x8_1).f3.f1))) (fun _ hk => hk.2) (.int .i64 ((rd_T50 l0 x8_1).f4.f0))) (fun _ hk => hk.2) (.int .i64 ((rd_T50 l0 x8_1).f4.f1))) (fun _ hk => hk.2) (.int .i64 ((rd_T50 l0 x8_1).f5))) (fun _ hk => hk.2) (.int .i64 ((rd_T50 l0 x8_1).f6))) (fun _ hk => hk.2) (.int .i64 ((rd_T50 l0 x8_1).f7))) (fun _ hk => hk.2) (.bool ((rd_T50 l0 x8_1).f8))) (fun _ hk => hk.2) (.int .i64 ((rd_T50 l0 x8_1).f9))) (fun _ h_ => h_.1))) hb); have n1_ := Aside0.mk (blk_below (g := gb113) (o := .cells #[.int .i64 ((rd_T50 l0 x8_1).f0), .int .i64 ((rd_T50 l0 x8_1).f1), .int .i64 ((rd_T50 l0 x8_1).f2), .int .i64 ((rd_T50 l0 x8_1).f3.f0), .int .i64 ((rd_T50 l0 x8_1).f3.f1), .int .i64 ((rd_T50 l0 x8_1).f4.f0), .int .i64 ((rd_T50 l0 x8_1).f4.f1), .int .i64 ((rd_T50 l0 x8_1).f5), .int .i64 ((rd_T50 l0 x8_1).f6), .int .i64 ((rd_T50 l0 x8_1).f7), .bool ((rd_T50 l0 x8_1).f8), .int .i64 ((rd_T50 l0 x8_1).f9)] 50 (0, 0)) (by (with_reducible repeat (first | refine blk_drewN ?_ _ | refine blk_drew ?_ | refine blk_alloc ?_ _)); refine blk_put (cs := #[.int .i64 ((rd_T50 l0 x8_1).f0), .int .i64 ((rd_T50 l0 x8_1).f1), .int .i64 ((rd_T50 l0 x8_1).f2), .int .i64 ((rd_T50 l0 x8_1).f3.f0), .int .i64 ((rd_T50 l0 x8_1).f3.f1), .int .i64 ((rd_T50 l0 x8_1).f4.f0), .int .i64 ((rd_T50 l0 x8_1).f4.f1), .int .i64 ((rd_T50 l0 x8_1).f5), .int .i64 ((rd_T50 l0 x8_1).f6), .int .i64 ((rd_T50 l0 x8_1).f7), .bool ((rd_T50 l0 x8_1).f8), .int .i64 0]) ?_ 11 _ rfl; (with_reducible repeat (first | refine blk_drewN ?_ _ | refine blk_drew ?_ | refine blk_alloc ?_ _)); refine blk_put (cs := #[.int .i64 ((rd_T50 l0 x8_1).f0), .int .i64 ((rd_T50 l0 x8_1).f1), .int .i64 ((rd_T50 l0 x8_1).f2), .int .i64 ((rd_T50 l0 x8_1).f3.f0), .int .i64 ((rd_T50 l0 x8_1).f3.f1), .int .i64 ((rd_T50 l0 x8_1).f4.f0), .int .i64 ((rd_T50 l0 x8_1).f4.f1), .int .i64 ((rd_T50 l0 x8_1).f5), .int .i64 ((rd_T50 l0 x8_1).f6), .int .i64 ((rd_T50 l0 x8_1).f7), .bool false, .int .i64 0]) ?_ 10 _ rfl; (with_reducible repeat (first | refine blk_drewN ?_ _ | refine blk_drew ?_ | refine blk_alloc ?_ _)); refine blk_put (cs := #[.int .i64 ((rd_T50 l0 x8_1).f0), .int .i64 ((rd_T50 l0 x8_1).f1), .int .i64 ((rd_T50 l0 x8_1).f2), .int .i64 ((rd_T50 l0 x8_1).f3.f0), .int .i64 ((rd_T50 l0 x8_1).f3.f1), .int .i64 ((rd_T50 l0 x8_1).f4.f0), .int .i64 ((rd_T50 l0 x8_1).f4.f1), .int .i64 ((rd_T50 l0 x8_1).f5), .int .i64 ((rd_T50 l0 x8_1).f6), .int .i64 0, .bool false, .int .i64 0]) ?_ 9 _ rfl; (with_reducible repeat (first | refine blk_drewN ?_ _ | refine blk_drew ?_ | refine blk_alloc ?_ _)); refine blk_put (cs := #[.int .i64 ((rd_T50 l0 x8_1).f0), .int .i64 ((rd_T50 l0 x8_1).f1), .int .i64 ((rd_T50 l0 x8_1).f2), .int .i64 ((rd_T50 l0 x8_1).f3.f0), .int .i64 ((rd_T50 l0 x8_1).f3.f1), .int .i64 ((rd_T50 l0 x8_1).f4.f0), .int .i64 ((rd_T50 l0 x8_1).f4.f1), .int .i64 ((rd_T50 l0 x8_1).f5), .int .i64 0, .int .i64 0, .bool false, .int .i64 0]) ?_ 8 _ rfl; (with_reducible repeat (first | refine blk_drewN ?_ _ | refine blk_drew ?_ | refine blk_alloc ?_ _)); refine blk_put (cs := #[.int .i64 ((rd_T50 l0 x8_1).f0), .int .i64 ((rd_T50 l0 x8_1).f1), .int .i64 ((rd_T50 l0 x8_1).f2), .int .i64 ((rd_T50 l0 x8_1).f3.f0), .int .i64 ((rd_T50 l0 x8_1).f3.f1), .int .i64 ((rd_T50 l0 x8_1).f4.f0), .int .i64 ((rd_T50 l0 x8_1).f4.f1), .int .i64 0, .int .i64 0, .int .i64 0, .bool false, .int .i64 0]) ?_ 7 _ rfl; (with_reducible repeat (first | refine blk_drewN ?_ _ | refine blk_drew ?_ | refine blk_alloc ?_ _)); refine blk_put (cs := #[.int .i64 ((rd_T50 l0 x8_1).f0), .int .i64 ((rd_T50 l0 x8_1).f1), .int .i64 ((rd_T50 l0 x8_1).f2), .int .i64 ((rd_T50 l0 x8_1).f3.f0), .int .i64 ((rd_T50 l0 x8_1).f3.f1), .int .i64 ((rd_T50 l0 x8_1).f4.f0), .int .i64 0, .int .i64 0, .int .i64 0, .int .i64 0, .bool false, .int .i64 0]) ?_ 6 _ rfl; (with_reducible repeat (first | refine blk_drewN ?_ _ | refine blk_drew ?_ | refine blk_alloc ?_ _)); refine blk_put (cs := #[.int .i64 ((rd_T50 l0 x8_1).f0), .int .i64 ((rd_T50 l0 x8_1).f1), .int .i64 ((rd_T50 l0 x8_1).f2), .int .i64 ((rd_T50 l0 x8_1).f3.f0), .int .i64 ((rd_T50 l0 x8_1).f3.f1), .int .i64 0, .int .i64 0, .int .i64 0, .int .i64 0, .int .i64 0, .bool false, .int .i64 0]) ?_ 5 _ rfl; (with_reducible repeat (first | refine blk_drewN ?_ _ | refine blk_drew ?_ | refine blk_alloc ?_ _)); refine blk_put (cs := #[.int .i64 ((rd_T50 l0 x8_1).f0), .int .i64 ((rd_T50 l0 x8_1).f1), .int .i64 ((rd_T50 l0 x8_1).f2), .int .i64 ((rd_T50 l0 x8_1).f3.f0), .int .i64 0, .int .i64 0, .int .i64 0, .int .i64 0, .int .i64 0, .int .i64 0, .bool false, .int .i64 0]) ?_ 4 _ rfl; (with_reducible repeat (first | refine blk_drewN ?_ _ | refine blk_drew ?_ | refine blk_alloc ?_ _)); refine blk_put (cs := #[.int .i64 ((rd_T50 l0 x8_1).f0), .int .i64 ((rd_T50 l0 x8_1).f1), .int .i64 ((rd_T50 l0 x8_1).f2), .int .i64 0, .int .i64 0, .int .i64 0, .int .i64 0, .int .i64 0, .int .i64 0, .int .i64 0, .bool false, .int .i64 0]) ?_ 3 _ rfl; (with_reducible repeat (first | refine blk_drewN ?_ _ | refine blk_drew ?_ | refine blk_alloc ?_ _)); refine blk_put (cs := #[.int .i64 ((rd_T50 l0 x8_1).f0), .int .i64 ((rd_T50 l0 x8_1).f1), .int .i64 0, .int .i64 0, .int .i64 0, .int .i64 0, .int .i64 0, .int .i64 0, .int .i64 0, .int .i64 0, .bool false, .int .i64 0]) ?_ 2 _ rfl; (with_reducible repeat (first | refine blk_drewN ?_ _ | refine blk_drew ?_ | refine blk_alloc ?_ _)); refine blk_put (cs := #[.int .i64 ((rd_T50 l0 x8_1).f0), .int .i64 0, .int .i64 0, .int .i64 0, .int .i64 0, .int .i64 0, .int .i64 0, .int .i64 0, .int .i64 0, .int .i64 0, .bool false, .int .i64 0]) ?_ 1 _ rfl; (with_reducible repeat (first | refine blk_drewN ?_ _ | refine blk_drew ?_ | refine blk_alloc ?_ _)); refine blk_put (cs := #[.int .i64 0, .int .i64 0, .int .i64 0, .int .i64 0, .int .i64 0, .int .i64 0, .int .i64 0, .int .i64 0, .int .i64 0, .int .i64 0, .bool false, .int .i64 0]) ?_ 0 _ rfl; (with_reducible repeat (first | refine blk_drewN ?_ _ | refine blk_drew ?_ | refine blk_alloc ?_ _)); exact BK113.out) hb); have n2_ := Aside0.mk (below_step (by repeat (first | (with_reducible first | exact HB.out | apply below_alloc | apply pw_below_drewN | apply below_drew1 | refine below_set ?_ GE113.out) | exact HB.out)) hb); clear HO_3; clear BK113; clear HB; have HO_3 := n0_; have BK113 := n1_; have HB := n2_; clear n0_ n1_ n2_; (try clear hb); (try clear hb2); (try clear hk); (try clear hi)) | ((with_reducible refine gate_builtin (b := .append) (xs := #[.tmp 12, .tmp 15]) rfl ?_); at_builtin; refine Kd.R_append k54 (w0 := w) w.heap.size rfl (.tmp 12) (.tmp 15) 24 54 (.agg #[(.int .i64 0), (.int .i64 0), (.int .i64 0), (.int .i64 0), (.int .i64 0), (.int .i64 0), (.int .i64 0), (.int .i64 0), (.int .i64 0), (.int .i64 0), (.bool false), (.int .i64 0)]) 96 rfl Try.underlying24 info54 rfl (by decide) (by omega) u3 x3_1 (⟨t114, t115, t116, (⟨t117, t118⟩ : S34), (⟨t119, t120⟩ : S34), t121, t122, t123, t124, t125⟩ : S54) [.int .i64 t114, .int .i64 t115, .int .i64 t116, .int .i64 t117, .int .i64 t118, .int .i64 t119, .int .i64 t120, .int .i64 t121, .int .i64 t122, .int .i64 t123, .bool t124, .int .i64 t125] (fun _ => True) (fun _ => False) rfl rfl ?aP (fun _ hk => hk.elim) ?aF ?aO ?aB ?aS ?aL ?_; (case aP => exact k54_mkM _ _ _ (⟨t114, t115, t116, (⟨t117, t118⟩ : S34), (⟨t119, t120⟩ : S34), t121, t122, t123, t124, t125⟩ : S54)); (case aB => exact (by repeat (first | (with_reducible first | exact HB.out | apply below_alloc | apply pw_below_drewN | apply below_drew1 | refine below_set ?_ GE113.out) | exact HB.out))); (case aF => exact (fun _ _ => trivial)); (case aO => exact (by (with_reducible repeat (first | apply Kd.R_alloc | apply Kd.R_drewN | apply Kd.R_drew)); exact HO_3.out)); (case aS => exact (below_size (by repeat (first | (with_reducible first | exact HB.out | apply below_alloc | apply pw_below_drewN | apply below_drew1 | refine below_set ?_ GE113.out) | exact HB.out)))); (case aL => have := LMc6.out; omega); intro v127 w10 ho hb hg hat; rw [← Ny126.out] at ho; have n0_ := Aside0.mk (blk_grown (g := gb113) (o := .cells #[.int .i64 ((rd_T50 l0 x8_1).f0), .int .i64 ((rd_T50 l0 x8_1).f1), .int .i64 ((rd_T50 l0 x8_1).f2), .int .i64 ((rd_T50 l0 x8_1).f3.f0), .int .i64 ((rd_T50 l0 x8_1).f3.f1), .int .i64 ((rd_T50 l0 x8_1).f4.f0), .int .i64 ((rd_T50 l0 x8_1).f4.f1), .int .i64 ((rd_T50 l0 x8_1).f5), .int .i64 ((rd_T50 l0 x8_1).f6), .int .i64 ((rd_T50 l0 x8_1).f7), .bool ((rd_T50 l0 x8_1).f8), .int .i64 ((rd_T50 l0 x8_1).f9)] 50 (0, 0)) (by (with_reducible repeat (first | refine blk_drewN ?_ _ | refine blk_drew ?_ | refine blk_alloc ?_ _)); exact BK113.out) hg (Kd.R_ne HO_3.out BK113.out (by decide))); have n1_ := Aside0.mk (hb); have n2_ := Aside0.mk (ho); clear BK113; clear HB; clear HO_3; have BK113 := n0_; have HB := n1_; have HO128 := n2_; clear n0_ n1_ n2_; clear ho hb hg hat))
              go_roundg k1
              case measure => have := HK1.out; omega
              case rel => exact ⟨(y126), (wrap64 (x8_1 + 1)), (by first | rfl | (simp; done) | (simp [*]; done)), H', ⟨by have := HK1.out; omega⟩, ⟨by (with_reducible repeat (first | apply Kd.R_alloc | apply Kd.R_drewN | apply Kd.R_drew)); exact HO128.out⟩, ⟨by repeat (first | (with_reducible first | exact HB.out | apply below_alloc | apply pw_below_drewN | apply below_drew1 | refine below_set ?_ GE113.out) | exact HB.out)⟩⟩
            · rw [if_neg c6] at H
              exact absurd H (by simp)
          · rw [if_neg c4] at H
            exact absurd H (by simp)
        · rw [if_neg c3] at H
          exact absurd H (by simp)
      · rw [if_neg c2] at H
        have c2b0 : decide (x8_1 < (l0.length : Int)) = false := decide_eq_false c2
        clear c2
        obtain rfl := Option.some.inj H
        go_wp2
        go_ret
        exact ⟨_, by first | rfl | (simp [errW_none, errW_some] <;> rfl) | (simp [*, errW_none, errW_some] <;> rfl), by (with_reducible repeat (first | apply Kd.R_alloc | apply Kd.R_drewN | apply Kd.R_drew)); exact HO_3.out, by repeat (first | (with_reducible first | exact HB.out | apply below_alloc | apply pw_below_drewN | apply below_drew1) | exact HB.out)⟩
def audit_Early.ev (x : S54) : Go.Proofs.Ythniclbmpeklmaa.Au.Ev := ⟨x.f0, x.f1, x.f2, x.f3.f0, x.f3.f1, x.f4.f0, x.f4.f1, x.f5, x.f6, x.f7, x.f8, x.f9⟩
def audit_Early.f (l0 : List S54) : Option Int := if l0.length ≤ 1000000 ∧ (l0.all fun x => Go.Proofs.Ythniclbmpeklmaa.Au.wfB (audit_Early.ev x)) = true then some (Go.Proofs.Ythniclbmpeklmaa.Au.earlyI (Go.Proofs.Ythniclbmpeklmaa.Au.gOf (l0.map audit_Early.ev)) l0.length) else none
theorem audit_Early.calls (A0 : Option Addr) (c0 : Nat) (l0 : List S54) (r : Int) (w : World) (hr0 : Kd.C k54 w A0 l0.length l0) (hc0 : l0.length ≤ c0) (h : audit_Early.f l0 = some r) :
    Calls Try.prog 19 #[.slice A0 l0.length c0] w fun e w' => e = .returned (.int .i64 r) ∧ Below w.heap.size w w' := by
  unfold audit_Early.f at h
  split at h
  · rename_i hs
    cases h
    have h1 := Go.Proofs.Ythniclbmpeklmaa.Au.early_top A0 c0 (l0.map audit_Early.ev) (by rw [List.length_map]; exact hs.1) w (fun i e he => by
      rw [List.getElem?_map] at he
      obtain ⟨x, hx, rfl⟩ := Option.map_eq_some_iff.1 he
      have hi : i < l0.length := (List.getElem?_eq_some_iff.1 hx).1
      have hrd : rd_T54 l0 (i : Int) = x := by
        show l0.getD i z54 = x
        rw [List.getD_eq_getElem?_getD, hx]; rfl
      have hat := at_T54 hr0 (i : Int) (by omega) (by omega)
      rw [hrd] at hat
      exact hat) (fun e he => by
      obtain ⟨x, hx, rfl⟩ := List.mem_map.1 he
      exact Go.Proofs.Ythniclbmpeklmaa.Au.wfE_of (List.all_eq_true.1 hs.2 x hx))
    rw [List.length_map] at h1
    exact h1
  · cases h
def audit_Wrong.ev (x : S54) : Go.Proofs.Ythniclbmpeklmaa.Au.Ev := ⟨x.f0, x.f1, x.f2, x.f3.f0, x.f3.f1, x.f4.f0, x.f4.f1, x.f5, x.f6, x.f7, x.f8, x.f9⟩
def audit_Wrong.f (l0 : List S54) : Option Int := if l0.length ≤ 1000000 ∧ (l0.all fun x => Go.Proofs.Ythniclbmpeklmaa.Au.wfB (audit_Wrong.ev x)) = true then some (Go.Proofs.Ythniclbmpeklmaa.Au.wrongI (Go.Proofs.Ythniclbmpeklmaa.Au.gOf (l0.map audit_Wrong.ev)) l0.length) else none
theorem audit_Wrong.calls (A0 : Option Addr) (c0 : Nat) (l0 : List S54) (r : Int) (w : World) (hr0 : Kd.C k54 w A0 l0.length l0) (hc0 : l0.length ≤ c0) (h : audit_Wrong.f l0 = some r) :
    Calls Try.prog 21 #[.slice A0 l0.length c0] w fun e w' => e = .returned (.int .i64 r) ∧ Below w.heap.size w w' := by
  unfold audit_Wrong.f at h
  split at h
  · rename_i hs
    cases h
    have h1 := Go.Proofs.Ythniclbmpeklmaa.Au.wrong_top A0 c0 (l0.map audit_Wrong.ev) (by rw [List.length_map]; exact hs.1) w (fun i e he => by
      rw [List.getElem?_map] at he
      obtain ⟨x, hx, rfl⟩ := Option.map_eq_some_iff.1 he
      have hi : i < l0.length := (List.getElem?_eq_some_iff.1 hx).1
      have hrd : rd_T54 l0 (i : Int) = x := by
        show l0.getD i z54 = x
        rw [List.getD_eq_getElem?_getD, hx]; rfl
      have hat := at_T54 hr0 (i : Int) (by omega) (by omega)
      rw [hrd] at hat
      exact hat) (fun e he => by
      obtain ⟨x, hx, rfl⟩ := List.mem_map.1 he
      exact Go.Proofs.Ythniclbmpeklmaa.Au.wfE_of (List.all_eq_true.1 hs.2 x hx))
    rw [List.length_map] at h1
    exact h1
  · cases h
def judge_Judge.ev (x : S54) : Go.Proofs.Ythniclbmpeklmaa.Au.Ev := ⟨x.f0, x.f1, x.f2, x.f3.f0, x.f3.f1, x.f4.f0, x.f4.f1, x.f5, x.f6, x.f7, x.f8, x.f9⟩
def judge_Judge.f (l0 : List S54) (a1 : Int) : Option (Int × Int) := if l0.length ≤ 200000 ∧ (l0.all fun x => Go.Proofs.Ythniclbmpeklmaa.Ju.wfB' (judge_Judge.ev x)) = true then some (Go.Proofs.Ythniclbmpeklmaa.Ju.judgeF (l0.map judge_Judge.ev) a1) else none
theorem judge_Judge.calls (A0 : Option Addr) (c0 : Nat) (l0 : List S54) (a1 : Int) (r1 : Int) (r2 : Int) (w : World) (hr0 : Kd.C k54 w A0 l0.length l0) (hc0 : l0.length ≤ c0) (h : judge_Judge.f l0 a1 = some (r1, r2)) :
    Calls Try.prog 37 #[.slice A0 l0.length c0, .int .i64 a1] w fun e w' => e = .returned (.tuple #[.int .i64 r1, .int .i64 r2]) ∧ Below w.heap.size w w' := by
  unfold judge_Judge.f at h
  split at h
  · rename_i hs
    have h1 := Go.Proofs.Ythniclbmpeklmaa.Ju.judge_any A0 c0 a1 (l0.map judge_Judge.ev) (by rw [List.length_map]; exact hs.1) w (fun i e he => by
      rw [List.getElem?_map] at he
      obtain ⟨x, hx, rfl⟩ := Option.map_eq_some_iff.1 he
      have hi : i < l0.length := (List.getElem?_eq_some_iff.1 hx).1
      have hrd : rd_T54 l0 (i : Int) = x := by
        show l0.getD i z54 = x
        rw [List.getD_eq_getElem?_getD, hx]; rfl
      have hat := at_T54 hr0 (i : Int) (by omega) (by omega)
      rw [hrd] at hat
      exact hat) (fun e he => by
      obtain ⟨x, hx, rfl⟩ := List.mem_map.1 he
      exact Go.Proofs.Ythniclbmpeklmaa.Ju.wfJ_of (List.all_eq_true.1 hs.2 x hx))
    rw [List.length_map] at h1
    rw [Option.some.inj h] at h1
    exact h1
  · cases h
def knelllaw14_AuditJudged.j0 : Nat → List (S50) → Int → Bool → Option (Bool)
  | 0, _, _, _ => none
  | k + 1, x0, x1, x22 => if x22 = true then ((knelllaw14_speaks.f).bind fun t130 => (some t130)) else ((knelllaw11_Ofs.f k x0).bind fun t131 => ((judge_Judge.f t131 x1).bind fun bt134 => (if bt134.2 = 0 then ((audit_Twice.f t131).bind fun t136 => (if t136 = (-1) then ((audit_Early.f t131).bind fun t137 => (if t137 = (-1) then ((audit_Wrong.f t131).bind fun t138 => (some (t138 == (-1)))) else (some false))) else (some false))) else (some true))))
def knelllaw14_AuditJudged.f (k : Nat) (l0 : List (S50)) (a1 : Int) : Option (Bool) := (knelllaw14_speaks.f).bind fun t129 => (if t129 = true then (if (l0.length : Int) > 60 then (knelllaw14_AuditJudged.j0 k l0 a1 true) else (if a1 < 1 then (knelllaw14_AuditJudged.j0 k l0 a1 true) else (knelllaw14_AuditJudged.j0 k l0 a1 (decide (a1 > 64))))) else (knelllaw14_AuditJudged.j0 k l0 a1 true))
theorem knelllaw14_AuditJudged.mono_l : ∀ k, (∀ y0 y1 y2, LeO (knelllaw14_AuditJudged.j0 k y0 y1 y2) (knelllaw14_AuditJudged.j0 (k + 1) y0 y1 y2))
  | 0 => fun _ _ _ r h => by simp [knelllaw14_AuditJudged.j0] at h
  | k + 1 => by
    have ih0 := knelllaw14_AuditJudged.mono_l k
    · intro y0 y1 y2
      unfold knelllaw14_AuditJudged.j0
      repeat' first
      | (with_reducible exact ih0 _ _ _)
      | (with_reducible exact knelllaw11_Ofs.mono _ _)
      | (with_reducible exact LeO.refl _)
      | (with_reducible exact LeO.none _)
      | (with_reducible refine LeO.ite ?_ ?_)
      | (with_reducible refine LeO.bind ?_ (fun _ => ?_))
      | exact ih0 _ _ _
      | exact knelllaw11_Ofs.mono _ _
      | exact LeO.none _
      | refine LeO.ite ?_ ?_
      | refine LeO.bind ?_ (fun _ => ?_)
theorem knelllaw14_AuditJudged.mono : ∀ a0 a1 k, LeO (knelllaw14_AuditJudged.f k a0 a1) (knelllaw14_AuditJudged.f (k + 1) a0 a1) := by
  intro a0 a1 k
  have ih0 := knelllaw14_AuditJudged.mono_l k
  unfold knelllaw14_AuditJudged.f
  repeat' first
      | (with_reducible exact ih0 _ _ _)
      | (with_reducible exact knelllaw11_Ofs.mono _ _)
      | (with_reducible exact LeO.refl _)
      | (with_reducible exact LeO.none _)
      | (with_reducible refine LeO.ite ?_ ?_)
      | (with_reducible refine LeO.bind ?_ (fun _ => ?_))
      | exact ih0 _ _ _
      | exact knelllaw11_Ofs.mono _ _
      | exact LeO.none _
      | refine LeO.ite ?_ ?_
      | refine LeO.bind ?_ (fun _ => ?_)
set_option maxHeartbeats 8000000 in
set_option maxRecDepth 100000 in
theorem knelllaw14_AuditJudged.calls (k : Nat) (A0 : Option Addr) (c0 : Nat) (l0 : List (S50)) (a1 : Int) (r : Bool) (w : World) (hr0 : Kd.C k50 w A0 l0.length l0) (hc0 : l0.length ≤ c0) (h : knelllaw14_AuditJudged.f k l0 a1 = some r) :
    Calls Try.prog 10 #[.slice A0 l0.length c0, .int .i64 a1] w fun e w' => e = .returned (.bool r) ∧ Below w.heap.size w w' := by
  have HR0 := Aside0.mk hr0
  have HC0 := Aside0.mk hc0
  clear hr0 hc0
  have HB := Aside0.mk (Below.refl w.heap.size w)
  have H : ((knelllaw14_speaks.f).bind fun t129 => (if t129 = true then (if (l0.length : Int) > 60 then (knelllaw14_AuditJudged.j0 k l0 a1 true) else (if a1 < 1 then (knelllaw14_AuditJudged.j0 k l0 a1 true) else (knelllaw14_AuditJudged.j0 k l0 a1 (decide (a1 > 64))))) else (knelllaw14_AuditJudged.j0 k l0 a1 true))) = some r := h
  clear h
  have HC3 := Aside0.mk H
  clear H
  go_enter Try.func10, Try.ntmps10
  go_upto_region 1 with (fail)
  go_cut [22] (fun v22 wc => ∃ (kq : Nat) (x22_2 : Bool), v22 = .bool x22_2 ∧ Aside0 (knelllaw14_AuditJudged.j0 kq l0 a1 x22_2 = some r) ∧ Aside0 (kq ≤ k) ∧ Aside0 (Below w.heap.size w wc))
  case first =>
    have H := HC3.out
    clear HC3
    replace H := Option.bind_eq_some_iff.mp H
    obtain ⟨t129, A40, H⟩ := H
    replace H : (if t129 = true then (if (l0.length : Int) > 60 then (knelllaw14_AuditJudged.j0 k l0 a1 true) else (if a1 < 1 then (knelllaw14_AuditJudged.j0 k l0 a1 true) else (knelllaw14_AuditJudged.j0 k l0 a1 (decide (a1 > 64))))) else (knelllaw14_AuditJudged.j0 k l0 a1 true)) = some r := H
    have A4 := Aside0.mk A40
    clear A40
    by_cases c5 : t129 = true
    · subst c5
      have H1 : (if (l0.length : Int) > 60 then (knelllaw14_AuditJudged.j0 k l0 a1 true) else (if a1 < 1 then (knelllaw14_AuditJudged.j0 k l0 a1 true) else (knelllaw14_AuditJudged.j0 k l0 a1 (decide (a1 > 64))))) = some r := by rw [if_pos rfl] at H; exact H
      clear H
      have H := H1
      clear H1
      by_cases c6 : (l0.length : Int) > 60
      · rw [if_pos c6] at H
        have c6b0 : decide (60 < (l0.length : Int)) = true := decide_eq_true c6
        have c6b1 : decide (60 < l0.length) = true := decide_eq_true (by omega)
        clear c6
        (first | rw [c6b0] | (simp only [i64_w, i32_w]; rw [c6b0]) | skip)
        have H' := Aside0.mk H
        clear H
        go_wp2_with (first | ((with_reducible refine gate_callee (f := 15) rfl ?_); refine goesL_ (some 8) rfl rfl Try.func15 (by kernel_rfl) rfl #[] rfl (by (try simp only [List.map_toArray, List.map_cons, List.map_nil]); first | done | rfl | (simp only [List.length_drop, List.length_take]; rfl)) ?_; (with_reducible refine (knelllaw14_speaks.calls  true _ A4.out).mono ?_); rintro e w7 ⟨rfl, hb⟩; refine ⟨_, rfl, ?_⟩; have n0_ := Aside0.mk (below_step (by repeat (first | (with_reducible first | exact HB.out | apply below_alloc | apply pw_below_drewN | apply below_drew1) | exact HB.out)) hb); clear HB; have HB := n0_; clear n0_; (try clear hb); (try clear hb2); (try clear hk); (try clear hi)))
        go_meet
        case rel => exact ⟨_, (true), (by first | rfl | (simp; done) | (simp [*]; done)), H', ⟨by first | omega | exact Nat.le_refl _⟩, ⟨by repeat (first | (with_reducible first | exact HB.out | apply below_alloc | apply pw_below_drewN | apply below_drew1) | exact HB.out)⟩⟩
      · rw [if_neg c6] at H
        have c6b0 : decide (60 < (l0.length : Int)) = false := decide_eq_false c6
        have c6b1 : decide (60 < l0.length) = false := decide_eq_false (by omega)
        clear c6
        (first | rw [c6b0] | (simp only [i64_w, i32_w]; rw [c6b0]) | skip)
        by_cases c8 : a1 < 1
        · rw [if_pos c8] at H
          have c8b0 : decide (a1 < 1) = true := decide_eq_true c8
          clear c8
          have H' := Aside0.mk H
          clear H
          go_wp2_with (first | ((with_reducible refine gate_callee (f := 15) rfl ?_); refine goesL_ (some 8) rfl rfl Try.func15 (by kernel_rfl) rfl #[] rfl (by (try simp only [List.map_toArray, List.map_cons, List.map_nil]); first | done | rfl | (simp only [List.length_drop, List.length_take]; rfl)) ?_; (with_reducible refine (knelllaw14_speaks.calls  true _ A4.out).mono ?_); rintro e w9 ⟨rfl, hb⟩; refine ⟨_, rfl, ?_⟩; have n0_ := Aside0.mk (below_step (by repeat (first | (with_reducible first | exact HB.out | apply below_alloc | apply pw_below_drewN | apply below_drew1) | exact HB.out)) hb); clear HB; have HB := n0_; clear n0_; (try clear hb); (try clear hb2); (try clear hk); (try clear hi)))
          go_meet
          case rel => exact ⟨_, (true), (by first | rfl | (simp; done) | (simp [*]; done)), H', ⟨by first | omega | exact Nat.le_refl _⟩, ⟨by repeat (first | (with_reducible first | exact HB.out | apply below_alloc | apply pw_below_drewN | apply below_drew1) | exact HB.out)⟩⟩
        · rw [if_neg c8] at H
          have c8b0 : decide (a1 < 1) = false := decide_eq_false c8
          clear c8
          have H' := Aside0.mk H
          clear H
          go_wp2_with (first | ((with_reducible refine gate_callee (f := 15) rfl ?_); refine goesL_ (some 8) rfl rfl Try.func15 (by kernel_rfl) rfl #[] rfl (by (try simp only [List.map_toArray, List.map_cons, List.map_nil]); first | done | rfl | (simp only [List.length_drop, List.length_take]; rfl)) ?_; (with_reducible refine (knelllaw14_speaks.calls  true _ A4.out).mono ?_); rintro e w10 ⟨rfl, hb⟩; refine ⟨_, rfl, ?_⟩; have n0_ := Aside0.mk (below_step (by repeat (first | (with_reducible first | exact HB.out | apply below_alloc | apply pw_below_drewN | apply below_drew1) | exact HB.out)) hb); clear HB; have HB := n0_; clear n0_; (try clear hb); (try clear hb2); (try clear hk); (try clear hi)))
          go_meet
          case rel => exact ⟨_, (decide (a1 > 64)), (by first | rfl | (simp; done) | (simp [*]; done)), H', ⟨by first | omega | exact Nat.le_refl _⟩, ⟨by repeat (first | (with_reducible first | exact HB.out | apply below_alloc | apply pw_below_drewN | apply below_drew1) | exact HB.out)⟩⟩
    · replace c5 := Bool.eq_false_iff.mpr c5
      subst c5
      have H1 : (knelllaw14_AuditJudged.j0 k l0 a1 true) = some r := by rw [if_neg (show ¬ (false = true) by decide)] at H; exact H
      clear H
      have H := H1
      clear H1
      have H' := Aside0.mk H
      clear H
      go_wp2_with (first | ((with_reducible refine gate_callee (f := 15) rfl ?_); refine goesL_ (some 8) rfl rfl Try.func15 (by kernel_rfl) rfl #[] rfl (by (try simp only [List.map_toArray, List.map_cons, List.map_nil]); first | done | rfl | (simp only [List.length_drop, List.length_take]; rfl)) ?_; (with_reducible refine (knelllaw14_speaks.calls  false _ A4.out).mono ?_); rintro e w11 ⟨rfl, hb⟩; refine ⟨_, rfl, ?_⟩; have n0_ := Aside0.mk (below_step (by repeat (first | (with_reducible first | exact HB.out | apply below_alloc | apply pw_below_drewN | apply below_drew1) | exact HB.out)) hb); clear HB; have HB := n0_; clear n0_; (try clear hb); (try clear hb2); (try clear hk); (try clear hi)))
      go_meet
      case rel => exact ⟨_, (true), (by first | rfl | (simp; done) | (simp [*]; done)), H', ⟨by first | omega | exact Nat.le_refl _⟩, ⟨by repeat (first | (with_reducible first | exact HB.out | apply below_alloc | apply pw_below_drewN | apply below_drew1) | exact HB.out)⟩⟩
  case rest =>
    clear HC3
    try clear c1
    try clear p2
    try clear c5
    try clear c6
    try clear c6b0
    try clear c6b1
    try clear c8
    try clear c8b0
    try clear c10
    obtain ⟨kq, x22_2, rfl, HA, HJ2, HB⟩ := hcut
    cases kq with
    | zero => exact absurd HA.out (by simp [knelllaw14_AuditJudged.j0])
    | succ kj2 =>
      have H := HA.out
      clear HA
      simp only [knelllaw14_AuditJudged.j0] at H
      by_cases c12 : x22_2 = true
      · subst c12
        have H1 : ((knelllaw14_speaks.f).bind fun t130 => (some t130)) = some r := by rw [if_pos rfl] at H; exact H
        clear H
        have H := H1
        clear H1
        replace H := Option.bind_eq_some_iff.mp H
        obtain ⟨t130, A130, H⟩ := H
        replace H : (some t130) = some r := H
        have A13 := Aside0.mk A130
        clear A130
        obtain rfl := Option.some.inj H
        go_wp2_with (first | ((with_reducible refine gate_callee (f := 15) rfl ?_); refine goesL_ (some 23) rfl rfl Try.func15 (by kernel_rfl) rfl #[] rfl (by (try simp only [List.map_toArray, List.map_cons, List.map_nil]); first | done | rfl | (simp only [List.length_drop, List.length_take]; rfl)) ?_; (with_reducible refine (knelllaw14_speaks.calls  t130 _ A13.out).mono ?_); rintro e w14 ⟨rfl, hb⟩; refine ⟨_, rfl, ?_⟩; have n0_ := Aside0.mk (below_step (by repeat (first | (with_reducible first | exact HB.out | apply below_alloc | apply pw_below_drewN | apply below_drew1) | exact HB.out)) hb); clear HB; have HB := n0_; clear n0_; (try clear hb); (try clear hb2); (try clear hk); (try clear hi)))
        go_ret
        exact ⟨by first | rfl | (simp [errW_none, errW_some] <;> rfl) | (simp [*, errW_none, errW_some] <;> rfl), by repeat (first | (with_reducible first | exact HB.out | apply below_alloc | apply pw_below_drewN | apply below_drew1) | exact HB.out)⟩
      · replace c12 := Bool.eq_false_iff.mpr c12
        subst c12
        have H1 : ((knelllaw11_Ofs.f kj2 l0).bind fun t131 => ((judge_Judge.f t131 a1).bind fun bt134 => (if bt134.2 = 0 then ((audit_Twice.f t131).bind fun t136 => (if t136 = (-1) then ((audit_Early.f t131).bind fun t137 => (if t137 = (-1) then ((audit_Wrong.f t131).bind fun t138 => (some (t138 == (-1)))) else (some false))) else (some false))) else (some true)))) = some r := by rw [if_neg (show ¬ (false = true) by decide)] at H; exact H
        clear H
        have H := H1
        clear H1
        replace H := Option.bind_eq_some_iff.mp H
        obtain ⟨t131, A150, H⟩ := H
        replace H : ((judge_Judge.f t131 a1).bind fun bt134 => (if bt134.2 = 0 then ((audit_Twice.f t131).bind fun t136 => (if t136 = (-1) then ((audit_Early.f t131).bind fun t137 => (if t137 = (-1) then ((audit_Wrong.f t131).bind fun t138 => (some (t138 == (-1)))) else (some false))) else (some false))) else (some true))) = some r := H
        have A15 := Aside0.mk A150
        clear A150
        replace H := Option.bind_eq_some_iff.mp H
        obtain ⟨⟨t134, t135⟩, A160, H⟩ := H
        replace H : (if t135 = 0 then ((audit_Twice.f t131).bind fun t136 => (if t136 = (-1) then ((audit_Early.f t131).bind fun t137 => (if t137 = (-1) then ((audit_Wrong.f t131).bind fun t138 => (some (t138 == (-1)))) else (some false))) else (some false))) else (some true)) = some r := H
        have A16 := Aside0.mk A160
        clear A160
        by_cases c17 : t135 = 0
        · rw [if_pos c17] at H
          have c17b0 : (t135 == 0) = true := beq_iff_eq.mpr c17
          have c17b1 : (t135 != 0) = false := bne_eq_false_iff_eq.mpr c17
          clear c17
          replace H := Option.bind_eq_some_iff.mp H
          obtain ⟨t136, A180, H⟩ := H
          replace H : (if t136 = (-1) then ((audit_Early.f t131).bind fun t137 => (if t137 = (-1) then ((audit_Wrong.f t131).bind fun t138 => (some (t138 == (-1)))) else (some false))) else (some false)) = some r := H
          have A18 := Aside0.mk A180
          clear A180
          by_cases c19 : t136 = (-1)
          · rw [if_pos c19] at H
            have c19b0 : (t136 == (-1)) = true := beq_iff_eq.mpr c19
            have c19b1 : (t136 != (-1)) = false := bne_eq_false_iff_eq.mpr c19
            clear c19
            replace H := Option.bind_eq_some_iff.mp H
            obtain ⟨t137, A200, H⟩ := H
            replace H : (if t137 = (-1) then ((audit_Wrong.f t131).bind fun t138 => (some (t138 == (-1)))) else (some false)) = some r := H
            have A20 := Aside0.mk A200
            clear A200
            by_cases c21 : t137 = (-1)
            · rw [if_pos c21] at H
              have c21b0 : (t137 == (-1)) = true := beq_iff_eq.mpr c21
              have c21b1 : (t137 != (-1)) = false := bne_eq_false_iff_eq.mpr c21
              clear c21
              replace H := Option.bind_eq_some_iff.mp H
              obtain ⟨t138, A220, H⟩ := H
              replace H : (some (t138 == (-1))) = some r := H
              have A22 := Aside0.mk A220
              clear A220
              obtain rfl := Option.some.inj H
              go_wp2_with (first | ((with_reducible refine gate_callee (f := 16) rfl ?_); refine goesL_ (some 25) rfl rfl Try.func16 (by kernel_rfl) rfl #[.slice A0 l0.length c0] rfl (by (try simp only [List.map_toArray, List.map_cons, List.map_nil]); first | done | rfl | (simp only [List.length_drop, List.length_take]; rfl)) ?_; (with_reducible refine (knelllaw11_Ofs.calls kj2 _ _ l0 t131 _ ?side1 ?side2 A15.out).mono ?_); (case side1 => repeat (first | exact (Kd.C_below HR0.out HB.out) | (with_reducible refine Kd.C_alloc ?_ _) | (with_reducible refine Kd.C_drewN ?_ _) | (with_reducible refine Kd.C_drew ?_))); (case side2 => exact HC0.out); rintro e w23 ⟨v132, rfl, ho0, hb⟩; refine ⟨_, rfl, ?_⟩; have n0_ := Aside0.mk (Kd.R_lower ho0 (below_size (by repeat (first | (with_reducible first | exact HB.out | apply below_alloc | apply pw_below_drewN | apply below_drew1) | exact HB.out)))); have n1_ := Aside0.mk (below_step (by repeat (first | (with_reducible first | exact HB.out | apply below_alloc | apply pw_below_drewN | apply below_drew1) | exact HB.out)) hb); clear HB; have HO133 := n0_; have HB := n1_; clear n0_ n1_; (try clear hb); (try clear hb2); (try clear hk); (try clear hi); (try clear ho0); obtain ⟨Ao24, co24, eo24⟩ := Kd.R_slice HO133.out; subst eo24) | ((with_reducible refine gate_callee (f := 37) rfl ?_); refine goesL_ (some 29) rfl rfl Try.func37 (by kernel_rfl) rfl #[.slice Ao24 t131.length co24, .int .i64 a1] rfl (by (try simp only [List.map_toArray, List.map_cons, List.map_nil]); first | done | rfl | (simp only [List.length_drop, List.length_take]; rfl)) ?_; (with_reducible refine (judge_Judge.calls _ _ t131 a1 t134 t135 _ ?side1 ?side2 A16.out).mono ?_); (case side1 => repeat (first | exact (Kd.R_reads' HO133.out).2.2 | (with_reducible refine Kd.C_alloc ?_ _) | (with_reducible refine Kd.C_drewN ?_ _) | (with_reducible refine Kd.C_drew ?_))); (case side2 => exact (Kd.R_reads' HO133.out).2.1); rintro e w25 ⟨rfl, hb⟩; refine ⟨_, rfl, ?_⟩; have n0_ := Aside0.mk (Kd.R_below (by (with_reducible repeat (first | apply Kd.R_alloc | apply Kd.R_drewN | apply Kd.R_drew)); exact HO133.out) hb); have n1_ := Aside0.mk (below_step (by repeat (first | (with_reducible first | exact HB.out | apply below_alloc | apply pw_below_drewN | apply below_drew1) | exact HB.out)) hb); clear HO133; clear HB; have HO133 := n0_; have HB := n1_; clear n0_ n1_; (try clear hb); (try clear hb2); (try clear hk); (try clear hi)) | ((with_reducible refine gate_callee (f := 17) rfl ?_); refine goesL_ (some 35) rfl rfl Try.func17 (by kernel_rfl) rfl #[.slice Ao24 t131.length co24] rfl (by (try simp only [List.map_toArray, List.map_cons, List.map_nil]); first | done | rfl | (simp only [List.length_drop, List.length_take]; rfl)) ?_; (with_reducible refine (audit_Twice.calls _ _ t131 t136 _ ?side1 ?side2 A18.out).mono ?_); (case side1 => repeat (first | exact (Kd.R_reads' HO133.out).2.2 | (with_reducible refine Kd.C_alloc ?_ _) | (with_reducible refine Kd.C_drewN ?_ _) | (with_reducible refine Kd.C_drew ?_))); (case side2 => exact (Kd.R_reads' HO133.out).2.1); rintro e w26 ⟨rfl, hb⟩; refine ⟨_, rfl, ?_⟩; have n0_ := Aside0.mk (Kd.R_below (by (with_reducible repeat (first | apply Kd.R_alloc | apply Kd.R_drewN | apply Kd.R_drew)); exact HO133.out) hb); have n1_ := Aside0.mk (below_step (by repeat (first | (with_reducible first | exact HB.out | apply below_alloc | apply pw_below_drewN | apply below_drew1) | exact HB.out)) hb); clear HO133; clear HB; have HO133 := n0_; have HB := n1_; clear n0_ n1_; (try clear hb); (try clear hb2); (try clear hk); (try clear hi)) | (go_at_call 19; (with_reducible refine (audit_Early.calls _ _ t131 t137 _ ?side1 ?side2 A20.out).mono ?_); (case side1 => repeat (first | exact (Kd.R_reads' HO133.out).2.2 | (with_reducible refine Kd.C_alloc ?_ _) | (with_reducible refine Kd.C_drewN ?_ _) | (with_reducible refine Kd.C_drew ?_))); (case side2 => exact (Kd.R_reads' HO133.out).2.1); rintro e w27 ⟨rfl, hb⟩; have n0_ := Aside0.mk (Kd.R_below (by (with_reducible repeat (first | apply Kd.R_alloc | apply Kd.R_drewN | apply Kd.R_drew)); exact HO133.out) hb); have n1_ := Aside0.mk (below_step (by repeat (first | (with_reducible first | exact HB.out | apply below_alloc | apply pw_below_drewN | apply below_drew1) | exact HB.out)) hb); clear HO133; clear HB; have HO133 := n0_; have HB := n1_; clear n0_ n1_; (try clear hb); (try clear hb2); (try clear hk); (try clear hi)) | (go_at_call 21; (with_reducible refine (audit_Wrong.calls _ _ t131 t138 _ ?side1 ?side2 A22.out).mono ?_); (case side1 => repeat (first | exact (Kd.R_reads' HO133.out).2.2 | (with_reducible refine Kd.C_alloc ?_ _) | (with_reducible refine Kd.C_drewN ?_ _) | (with_reducible refine Kd.C_drew ?_))); (case side2 => exact (Kd.R_reads' HO133.out).2.1); rintro e w28 ⟨rfl, hb⟩; have n0_ := Aside0.mk (Kd.R_below (by (with_reducible repeat (first | apply Kd.R_alloc | apply Kd.R_drewN | apply Kd.R_drew)); exact HO133.out) hb); have n1_ := Aside0.mk (below_step (by repeat (first | (with_reducible first | exact HB.out | apply below_alloc | apply pw_below_drewN | apply below_drew1) | exact HB.out)) hb); clear HO133; clear HB; have HO133 := n0_; have HB := n1_; clear n0_ n1_; (try clear hb); (try clear hb2); (try clear hk); (try clear hi)))
              go_ret
              exact ⟨by first | rfl | (simp [errW_none, errW_some] <;> rfl) | (simp [*, errW_none, errW_some] <;> rfl), by repeat (first | (with_reducible first | exact HB.out | apply below_alloc | apply pw_below_drewN | apply below_drew1) | exact HB.out)⟩
            · rw [if_neg c21] at H
              have c21b0 : (t137 == (-1)) = false := beq_eq_false_iff_ne.mpr c21
              have c21b1 : (t137 != (-1)) = true := bne_iff_ne.mpr c21
              obtain rfl := Option.some.inj H
              go_wp2_with (first | ((with_reducible refine gate_callee (f := 16) rfl ?_); refine goesL_ (some 25) rfl rfl Try.func16 (by kernel_rfl) rfl #[.slice A0 l0.length c0] rfl (by (try simp only [List.map_toArray, List.map_cons, List.map_nil]); first | done | rfl | (simp only [List.length_drop, List.length_take]; rfl)) ?_; (with_reducible refine (knelllaw11_Ofs.calls kj2 _ _ l0 t131 _ ?side1 ?side2 A15.out).mono ?_); (case side1 => repeat (first | exact (Kd.C_below HR0.out HB.out) | (with_reducible refine Kd.C_alloc ?_ _) | (with_reducible refine Kd.C_drewN ?_ _) | (with_reducible refine Kd.C_drew ?_))); (case side2 => exact HC0.out); rintro e w29 ⟨v132, rfl, ho0, hb⟩; refine ⟨_, rfl, ?_⟩; have n0_ := Aside0.mk (Kd.R_lower ho0 (below_size (by repeat (first | (with_reducible first | exact HB.out | apply below_alloc | apply pw_below_drewN | apply below_drew1) | exact HB.out)))); have n1_ := Aside0.mk (below_step (by repeat (first | (with_reducible first | exact HB.out | apply below_alloc | apply pw_below_drewN | apply below_drew1) | exact HB.out)) hb); clear HB; have HO133 := n0_; have HB := n1_; clear n0_ n1_; (try clear hb); (try clear hb2); (try clear hk); (try clear hi); (try clear ho0); obtain ⟨Ao30, co30, eo30⟩ := Kd.R_slice HO133.out; subst eo30) | ((with_reducible refine gate_callee (f := 37) rfl ?_); refine goesL_ (some 29) rfl rfl Try.func37 (by kernel_rfl) rfl #[.slice Ao30 t131.length co30, .int .i64 a1] rfl (by (try simp only [List.map_toArray, List.map_cons, List.map_nil]); first | done | rfl | (simp only [List.length_drop, List.length_take]; rfl)) ?_; (with_reducible refine (judge_Judge.calls _ _ t131 a1 t134 t135 _ ?side1 ?side2 A16.out).mono ?_); (case side1 => repeat (first | exact (Kd.R_reads' HO133.out).2.2 | (with_reducible refine Kd.C_alloc ?_ _) | (with_reducible refine Kd.C_drewN ?_ _) | (with_reducible refine Kd.C_drew ?_))); (case side2 => exact (Kd.R_reads' HO133.out).2.1); rintro e w31 ⟨rfl, hb⟩; refine ⟨_, rfl, ?_⟩; have n0_ := Aside0.mk (Kd.R_below (by (with_reducible repeat (first | apply Kd.R_alloc | apply Kd.R_drewN | apply Kd.R_drew)); exact HO133.out) hb); have n1_ := Aside0.mk (below_step (by repeat (first | (with_reducible first | exact HB.out | apply below_alloc | apply pw_below_drewN | apply below_drew1) | exact HB.out)) hb); clear HO133; clear HB; have HO133 := n0_; have HB := n1_; clear n0_ n1_; (try clear hb); (try clear hb2); (try clear hk); (try clear hi)) | ((with_reducible refine gate_callee (f := 17) rfl ?_); refine goesL_ (some 35) rfl rfl Try.func17 (by kernel_rfl) rfl #[.slice Ao30 t131.length co30] rfl (by (try simp only [List.map_toArray, List.map_cons, List.map_nil]); first | done | rfl | (simp only [List.length_drop, List.length_take]; rfl)) ?_; (with_reducible refine (audit_Twice.calls _ _ t131 t136 _ ?side1 ?side2 A18.out).mono ?_); (case side1 => repeat (first | exact (Kd.R_reads' HO133.out).2.2 | (with_reducible refine Kd.C_alloc ?_ _) | (with_reducible refine Kd.C_drewN ?_ _) | (with_reducible refine Kd.C_drew ?_))); (case side2 => exact (Kd.R_reads' HO133.out).2.1); rintro e w32 ⟨rfl, hb⟩; refine ⟨_, rfl, ?_⟩; have n0_ := Aside0.mk (Kd.R_below (by (with_reducible repeat (first | apply Kd.R_alloc | apply Kd.R_drewN | apply Kd.R_drew)); exact HO133.out) hb); have n1_ := Aside0.mk (below_step (by repeat (first | (with_reducible first | exact HB.out | apply below_alloc | apply pw_below_drewN | apply below_drew1) | exact HB.out)) hb); clear HO133; clear HB; have HO133 := n0_; have HB := n1_; clear n0_ n1_; (try clear hb); (try clear hb2); (try clear hk); (try clear hi)) | (go_at_call 19; (with_reducible refine (audit_Early.calls _ _ t131 t137 _ ?side1 ?side2 A20.out).mono ?_); (case side1 => repeat (first | exact (Kd.R_reads' HO133.out).2.2 | (with_reducible refine Kd.C_alloc ?_ _) | (with_reducible refine Kd.C_drewN ?_ _) | (with_reducible refine Kd.C_drew ?_))); (case side2 => exact (Kd.R_reads' HO133.out).2.1); rintro e w33 ⟨rfl, hb⟩; have n0_ := Aside0.mk (Kd.R_below (by (with_reducible repeat (first | apply Kd.R_alloc | apply Kd.R_drewN | apply Kd.R_drew)); exact HO133.out) hb); have n1_ := Aside0.mk (below_step (by repeat (first | (with_reducible first | exact HB.out | apply below_alloc | apply pw_below_drewN | apply below_drew1) | exact HB.out)) hb); clear HO133; clear HB; have HO133 := n0_; have HB := n1_; clear n0_ n1_; (try clear hb); (try clear hb2); (try clear hk); (try clear hi)))
              go_ret
              exact ⟨by first | rfl | (simp [errW_none, errW_some] <;> rfl) | (simp [*, errW_none, errW_some] <;> rfl), by repeat (first | (with_reducible first | exact HB.out | apply below_alloc | apply pw_below_drewN | apply below_drew1) | exact HB.out)⟩
          · rw [if_neg c19] at H
            have c19b0 : (t136 == (-1)) = false := beq_eq_false_iff_ne.mpr c19
            have c19b1 : (t136 != (-1)) = true := bne_iff_ne.mpr c19
            obtain rfl := Option.some.inj H
            go_wp2_with (first | ((with_reducible refine gate_callee (f := 16) rfl ?_); refine goesL_ (some 25) rfl rfl Try.func16 (by kernel_rfl) rfl #[.slice A0 l0.length c0] rfl (by (try simp only [List.map_toArray, List.map_cons, List.map_nil]); first | done | rfl | (simp only [List.length_drop, List.length_take]; rfl)) ?_; (with_reducible refine (knelllaw11_Ofs.calls kj2 _ _ l0 t131 _ ?side1 ?side2 A15.out).mono ?_); (case side1 => repeat (first | exact (Kd.C_below HR0.out HB.out) | (with_reducible refine Kd.C_alloc ?_ _) | (with_reducible refine Kd.C_drewN ?_ _) | (with_reducible refine Kd.C_drew ?_))); (case side2 => exact HC0.out); rintro e w34 ⟨v132, rfl, ho0, hb⟩; refine ⟨_, rfl, ?_⟩; have n0_ := Aside0.mk (Kd.R_lower ho0 (below_size (by repeat (first | (with_reducible first | exact HB.out | apply below_alloc | apply pw_below_drewN | apply below_drew1) | exact HB.out)))); have n1_ := Aside0.mk (below_step (by repeat (first | (with_reducible first | exact HB.out | apply below_alloc | apply pw_below_drewN | apply below_drew1) | exact HB.out)) hb); clear HB; have HO133 := n0_; have HB := n1_; clear n0_ n1_; (try clear hb); (try clear hb2); (try clear hk); (try clear hi); (try clear ho0); obtain ⟨Ao35, co35, eo35⟩ := Kd.R_slice HO133.out; subst eo35) | ((with_reducible refine gate_callee (f := 37) rfl ?_); refine goesL_ (some 29) rfl rfl Try.func37 (by kernel_rfl) rfl #[.slice Ao35 t131.length co35, .int .i64 a1] rfl (by (try simp only [List.map_toArray, List.map_cons, List.map_nil]); first | done | rfl | (simp only [List.length_drop, List.length_take]; rfl)) ?_; (with_reducible refine (judge_Judge.calls _ _ t131 a1 t134 t135 _ ?side1 ?side2 A16.out).mono ?_); (case side1 => repeat (first | exact (Kd.R_reads' HO133.out).2.2 | (with_reducible refine Kd.C_alloc ?_ _) | (with_reducible refine Kd.C_drewN ?_ _) | (with_reducible refine Kd.C_drew ?_))); (case side2 => exact (Kd.R_reads' HO133.out).2.1); rintro e w36 ⟨rfl, hb⟩; refine ⟨_, rfl, ?_⟩; have n0_ := Aside0.mk (Kd.R_below (by (with_reducible repeat (first | apply Kd.R_alloc | apply Kd.R_drewN | apply Kd.R_drew)); exact HO133.out) hb); have n1_ := Aside0.mk (below_step (by repeat (first | (with_reducible first | exact HB.out | apply below_alloc | apply pw_below_drewN | apply below_drew1) | exact HB.out)) hb); clear HO133; clear HB; have HO133 := n0_; have HB := n1_; clear n0_ n1_; (try clear hb); (try clear hb2); (try clear hk); (try clear hi)) | ((with_reducible refine gate_callee (f := 17) rfl ?_); refine goesL_ (some 35) rfl rfl Try.func17 (by kernel_rfl) rfl #[.slice Ao35 t131.length co35] rfl (by (try simp only [List.map_toArray, List.map_cons, List.map_nil]); first | done | rfl | (simp only [List.length_drop, List.length_take]; rfl)) ?_; (with_reducible refine (audit_Twice.calls _ _ t131 t136 _ ?side1 ?side2 A18.out).mono ?_); (case side1 => repeat (first | exact (Kd.R_reads' HO133.out).2.2 | (with_reducible refine Kd.C_alloc ?_ _) | (with_reducible refine Kd.C_drewN ?_ _) | (with_reducible refine Kd.C_drew ?_))); (case side2 => exact (Kd.R_reads' HO133.out).2.1); rintro e w37 ⟨rfl, hb⟩; refine ⟨_, rfl, ?_⟩; have n0_ := Aside0.mk (Kd.R_below (by (with_reducible repeat (first | apply Kd.R_alloc | apply Kd.R_drewN | apply Kd.R_drew)); exact HO133.out) hb); have n1_ := Aside0.mk (below_step (by repeat (first | (with_reducible first | exact HB.out | apply below_alloc | apply pw_below_drewN | apply below_drew1) | exact HB.out)) hb); clear HO133; clear HB; have HO133 := n0_; have HB := n1_; clear n0_ n1_; (try clear hb); (try clear hb2); (try clear hk); (try clear hi)))
            go_ret
            exact ⟨by first | rfl | (simp [errW_none, errW_some] <;> rfl) | (simp [*, errW_none, errW_some] <;> rfl), by repeat (first | (with_reducible first | exact HB.out | apply below_alloc | apply pw_below_drewN | apply below_drew1) | exact HB.out)⟩
        · rw [if_neg c17] at H
          have c17b0 : (t135 == 0) = false := beq_eq_false_iff_ne.mpr c17
          have c17b1 : (t135 != 0) = true := bne_iff_ne.mpr c17
          obtain rfl := Option.some.inj H
          go_wp2_with (first | ((with_reducible refine gate_callee (f := 16) rfl ?_); refine goesL_ (some 25) rfl rfl Try.func16 (by kernel_rfl) rfl #[.slice A0 l0.length c0] rfl (by (try simp only [List.map_toArray, List.map_cons, List.map_nil]); first | done | rfl | (simp only [List.length_drop, List.length_take]; rfl)) ?_; (with_reducible refine (knelllaw11_Ofs.calls kj2 _ _ l0 t131 _ ?side1 ?side2 A15.out).mono ?_); (case side1 => repeat (first | exact (Kd.C_below HR0.out HB.out) | (with_reducible refine Kd.C_alloc ?_ _) | (with_reducible refine Kd.C_drewN ?_ _) | (with_reducible refine Kd.C_drew ?_))); (case side2 => exact HC0.out); rintro e w38 ⟨v132, rfl, ho0, hb⟩; refine ⟨_, rfl, ?_⟩; have n0_ := Aside0.mk (Kd.R_lower ho0 (below_size (by repeat (first | (with_reducible first | exact HB.out | apply below_alloc | apply pw_below_drewN | apply below_drew1) | exact HB.out)))); have n1_ := Aside0.mk (below_step (by repeat (first | (with_reducible first | exact HB.out | apply below_alloc | apply pw_below_drewN | apply below_drew1) | exact HB.out)) hb); clear HB; have HO133 := n0_; have HB := n1_; clear n0_ n1_; (try clear hb); (try clear hb2); (try clear hk); (try clear hi); (try clear ho0); obtain ⟨Ao39, co39, eo39⟩ := Kd.R_slice HO133.out; subst eo39) | ((with_reducible refine gate_callee (f := 37) rfl ?_); refine goesL_ (some 29) rfl rfl Try.func37 (by kernel_rfl) rfl #[.slice Ao39 t131.length co39, .int .i64 a1] rfl (by (try simp only [List.map_toArray, List.map_cons, List.map_nil]); first | done | rfl | (simp only [List.length_drop, List.length_take]; rfl)) ?_; (with_reducible refine (judge_Judge.calls _ _ t131 a1 t134 t135 _ ?side1 ?side2 A16.out).mono ?_); (case side1 => repeat (first | exact (Kd.R_reads' HO133.out).2.2 | (with_reducible refine Kd.C_alloc ?_ _) | (with_reducible refine Kd.C_drewN ?_ _) | (with_reducible refine Kd.C_drew ?_))); (case side2 => exact (Kd.R_reads' HO133.out).2.1); rintro e w40 ⟨rfl, hb⟩; refine ⟨_, rfl, ?_⟩; have n0_ := Aside0.mk (Kd.R_below (by (with_reducible repeat (first | apply Kd.R_alloc | apply Kd.R_drewN | apply Kd.R_drew)); exact HO133.out) hb); have n1_ := Aside0.mk (below_step (by repeat (first | (with_reducible first | exact HB.out | apply below_alloc | apply pw_below_drewN | apply below_drew1) | exact HB.out)) hb); clear HO133; clear HB; have HO133 := n0_; have HB := n1_; clear n0_ n1_; (try clear hb); (try clear hb2); (try clear hk); (try clear hi)))
          go_ret
          exact ⟨by first | rfl | (simp [errW_none, errW_some] <;> rfl) | (simp [*, errW_none, errW_some] <;> rfl), by repeat (first | (with_reducible first | exact HB.out | apply below_alloc | apply pw_below_drewN | apply below_drew1) | exact HB.out)⟩
end Go.Proofs.Ythniclbmpeklmaa.KAj
end
section
namespace Go.Proofs.Ythniclbmpeklmaa.Ju
open Go.RowKit Go.Proofs.Ythniclbmpeklmaa.Au
set_option linter.unusedVariables false
set_option linter.unusedSimpArgs false
theorem right_op {e : Ev} (h : rightJ e = true) (hk : e.k = 3) : 1 ≤ e.op ∧ e.op ≤ 4 ∧ 0 ≤ e.ng ∧ 0 ≤ e.nn := by
  unfold rightJ Ev.evRight Ev.kindB at h
  rw [hk] at h
  simp at h
  omega
/-- What comes about when something does. -/
inductive Did (m : Md) (e : Ev) : Md → Prop
  | tick (hk : e.k = 1) (ht : e.t = wrap64 (m.clk + 1)) : Did m e { m with clk := e.t }
  | fire (hk : e.k = 4) (ha : m.st e.h = 1) (hd : m.dl e.h ≤ e.t) (hc : e.t ≤ m.clk) : Did m e (m.end_ e.h 2)
  | cancel (hk : e.k = 3) (ho : e.op = 2) (hy : e.y = true) (ha : m.st e.h = 1) : Did m e (m.end_ e.h 3)
  | same (hk : e.k = 3) (hm : mk1 e = false) (he : ends e = false) : Did m e m
  | start (hk : e.k = 3) (ho : e.op = 1) (he : e.er = 0) (hs : m.startOk e.new = true) : Did m e (m.arm e.new e.t)
  | rearm (hk : e.k = 3) (ho : e.op = 3) (he : e.er = 0) (ha : m.st e.h = 1) (h1 : e.nn = e.hn) (h2 : e.ng = wrap64 (e.hg + 1)) : Did m e ((m.end_ e.h 4).arm e.new e.t)
theorem did {m : Md} {e : Ev} (h : (doF m e).2 = 0) : rightJ e = true ∧ Did m e (doF m e).1 := by
  unfold doF at h ⊢
  by_cases hr : rightJ e = false
  · rw [if_pos hr] at h; simp at h
  rw [if_neg hr] at h ⊢
  have hr' : rightJ e = true := by simpa using hr
  refine ⟨hr', ?_⟩
  by_cases k1 : e.k = 1
  · rw [if_pos k1] at h ⊢
    by_cases ht : e.t = wrap64 (m.clk + 1)
    · rw [if_pos ht]; exact .tick k1 ht
    · rw [if_neg ht] at h; simp at h
  rw [if_neg k1] at h ⊢
  by_cases k4 : e.k = 4
  · rw [if_pos k4] at h ⊢
    by_cases hc : m.st e.h = 1 ∧ m.dl e.h ≤ e.t ∧ e.t ≤ m.clk
    · rw [if_pos hc]; exact .fire k4 hc.1 hc.2.1 hc.2.2
    · rw [if_neg hc] at h; simp at h
  rw [if_neg k4] at h ⊢
  by_cases k3 : e.k = 3
  · rw [if_pos k3] at h ⊢
    obtain ⟨o1, o4, _⟩ := right_op hr' k3
    unfold pointF at h ⊢
    by_cases c1 : e.op = 2 ∧ e.y = true
    · rw [if_pos c1] at h ⊢
      by_cases ha : m.st e.h = 1
      · rw [if_pos ha]; exact .cancel k3 c1.1 c1.2 ha
      · rw [if_neg ha] at h; simp at h
    rw [if_neg c1] at h ⊢
    by_cases c2 : e.op = 2 ∨ (e.er = 4 ∧ e.op ≠ 1)
    · rw [if_pos c2] at h ⊢
      have hs : Did m e m := .same k3 (by
        unfold mk1
        rcases c2 with c2 | ⟨c2, _⟩
        · rw [c2]; simp
        · rw [c2]; simp) (by
        unfold ends
        rcases c2 with c2 | ⟨c2, _⟩
        · have : ¬ e.y = true := fun q => c1 ⟨c2, q⟩
          simp [c2, k3, this]
        · simp [c2, k3]
          intro q
          have : ¬ e.y = true := fun z => c1 ⟨q, z⟩
          simpa using this)
      by_cases ha : m.st e.h = 1
      · rw [if_pos ha] at h; simp at h
      · rw [if_neg ha]; exact hs
    rw [if_neg c2] at h ⊢
    have n2 : e.op ≠ 2 := fun q => c2 (.inl q)
    by_cases c3 : e.er ≠ 0
    · rw [if_pos c3]
      exact .same k3 (by unfold mk1; simp [c3]) (by unfold ends; simp [k3, n2, c3])
    rw [if_neg c3] at h ⊢
    have e0 : e.er = 0 := by omega
    by_cases c4 : e.op = 1
    · rw [if_pos c4] at h ⊢
      by_cases hs : m.startOk e.new = true
      · rw [if_pos hs]; exact .start k3 c4 e0 hs
      · rw [if_neg hs] at h; simp at h
    rw [if_neg c4] at h ⊢
    by_cases c5 : e.op = 4
    · rw [if_pos c5] at h ⊢
      have hs : Did m e m := .same k3 (by unfold mk1; simp [c5]) (by unfold ends; simp [k3, c5])
      by_cases ha : m.st e.h = 1
      · rw [if_pos ha]; exact hs
      · rw [if_neg ha] at h; simp at h
    rw [if_neg c5] at h ⊢
    by_cases hc : m.st e.h = 1 ∧ e.nn = e.hn ∧ e.ng = wrap64 (e.hg + 1)
    · rw [if_pos hc]; exact .rearm k3 (by omega) e0 hc.1 hc.2.1 hc.2.2
    · rw [if_neg hc] at h; simp at h
  · rw [if_neg k3] at h; simp at h
/-- What a model keeps to. -/
structure MInv (m : Md) : Prop where
  top : ∀ h, m.fat h ≠ none → ∃ g, m.lst h.1 = some g ∧ h.2 ≤ g
  arm : ∀ h, m.st h = 1 → m.lst h.1 = some h.2
theorem st_fat {m : Md} {h : Ha} (hs : m.st h = 1) : m.fat h ≠ none := fun q => by unfold Md.st at hs; rw [q] at hs; simp at hs
theorem st_upd (m : Md) (h x : Ha) (v : Int × Int) : ({ m with fat := updF m.fat h v } : Md).st x = if x = h then v.1 else m.st x := by
  unfold Md.st updF
  by_cases e : x = h <;> simp [e]
theorem dl_upd (m : Md) (h x : Ha) (v : Int × Int) : ({ m with fat := updF m.fat h v } : Md).dl x = if x = h then v.2 else m.dl x := by
  unfold Md.dl updF
  by_cases e : x = h <;> simp [e]
theorem end_st (m : Md) (h x : Ha) (s : Int) : (m.end_ h s).st x = if x = h then s else m.st x := st_upd m h x (s, 0)
theorem end_dl (m : Md) (h x : Ha) (s : Int) : (m.end_ h s).dl x = if x = h then 0 else m.dl x := dl_upd m h x (s, 0)
theorem arm_st (m : Md) (h x : Ha) (d : Int) : (m.arm h d).st x = if x = h then 1 else m.st x := st_upd m h x (1, d)
theorem arm_dl (m : Md) (h x : Ha) (d : Int) : (m.arm h d).dl x = if x = h then d else m.dl x := dl_upd m h x (1, d)
theorem end_fat (m : Md) (h x : Ha) (s : Int) : (m.end_ h s).fat x = if x = h then some (s, 0) else m.fat x := rfl
theorem arm_fat (m : Md) (h x : Ha) (d : Int) : (m.arm h d).fat x = if x = h then some (1, d) else m.fat x := rfl
theorem arm_lst (m : Md) (h : Ha) (d : Int) (n : Int) : (m.arm h d).lst n = if n = h.1 then some h.2 else m.lst n := rfl
theorem MInv0 : MInv md0 := ⟨fun h q => absurd rfl q, fun h q => by simp [md0, Md.st] at q⟩
theorem MInv.end_ {m : Md} (h : MInv m) {x : Ha} (hx : m.fat x ≠ none) {s : Int} (hs : s ≠ 1) : MInv (m.end_ x s) := by
  constructor
  · intro y hy
    rw [end_fat] at hy
    by_cases e : y = x
    · rw [e]; exact h.top x hx
    · rw [if_neg e] at hy; exact h.top y hy
  · intro y hy
    rw [end_st] at hy
    by_cases e : y = x
    · rw [if_pos e] at hy; omega
    · rw [if_neg e] at hy; exact h.arm y hy
theorem MInv.arm_ {m : Md} (h : MInv m) {x : Ha} {d : Int} (hn : ∀ g, m.lst x.1 = some g → g < x.2) (ha : ∀ y : Ha, y.1 = x.1 → m.st y ≠ 1) : MInv (m.arm x d) := by
  constructor
  · intro y hy
    rw [arm_fat] at hy
    rw [arm_lst]
    by_cases e : y = x
    · rw [e, if_pos rfl]; exact ⟨_, rfl, Int.le_refl _⟩
    · rw [if_neg e] at hy
      obtain ⟨g, h1, h2⟩ := h.top y hy
      by_cases e1 : y.1 = x.1
      · rw [if_pos e1]
        rw [e1] at h1
        have := hn g h1
        exact ⟨_, rfl, by omega⟩
      · rw [if_neg e1]; exact ⟨g, h1, h2⟩
  · intro y hy
    rw [arm_st] at hy
    rw [arm_lst]
    by_cases e : y = x
    · rw [e, if_pos rfl]
    · rw [if_neg e] at hy
      have e1 : y.1 ≠ x.1 := fun q => ha y q hy
      rw [if_neg e1]
      exact h.arm y hy
theorem MInv.start {m : Md} (h : MInv m) {x : Ha} (hs : m.startOk x = true) : (∀ g, m.lst x.1 = some g → g < x.2) ∧ (∀ y : Ha, y.1 = x.1 → m.st y ≠ 1) ∧ m.fat x = none := by
  unfold Md.startOk at hs
  have h1 : ∀ g, m.lst x.1 = some g → m.st (x.1, g) ≠ 1 ∧ g < x.2 := fun g hg => by
    rw [hg] at hs
    simpa using hs
  refine ⟨fun g hg => (h1 g hg).2, fun y hy hq => ?_, ?_⟩
  · have := h.arm y hq
    rw [hy] at this
    have := (h1 _ this).1
    rw [← hy] at this
    exact this hq
  · cases hf : m.fat x with
    | none => rfl
    | some v =>
      obtain ⟨g, hg, hle⟩ := h.top x (by rw [hf]; simp)
      have := (h1 g hg).2
      omega
theorem wrap_next {g n : Int} (hg : (Lit.int .i64 g).wf = true) (h0 : 0 ≤ n) (h : n = wrap64 (g + 1)) : n = g + 1 := by
  have h1 : IntKind.i64.min = -9223372036854775808 := rfl
  simp [Lit.wf, h1] at hg
  unfold wrap64 at h
  omega
theorem MInv.rearm {m : Md} (h : MInv m) {x y : Ha} (ha : m.st x = 1) (h1 : y.1 = x.1) (h2 : y.2 = x.2 + 1) {d : Int} : m.fat y = none ∧ MInv ((m.end_ x 4).arm y d) := by
  have hl := h.arm x ha
  have hx := st_fat ha
  have hy : m.fat y = none := by
    cases hf : m.fat y with
    | none => rfl
    | some v =>
      obtain ⟨g, hg, hle⟩ := h.top y (by rw [hf]; simp)
      rw [h1, hl] at hg
      have := Option.some.inj hg
      omega
  refine ⟨hy, (h.end_ hx (by omega)).arm_ (fun g hg => ?_) (fun z hz hq => ?_)⟩
  · have hg' : m.lst y.1 = some g := hg
    rw [h1, hl] at hg'
    have := Option.some.inj hg'
    omega
  · rw [end_st] at hq
    by_cases e : z = x
    · rw [if_pos e] at hq; omega
    · rw [if_neg e] at hq
      have h3 := h.arm z hq
      rw [hz, h1, hl] at h3
      exact e (Prod.ext (hz.trans h1) (Option.some.inj h3).symm)
theorem MInv.did {m m' : Md} {e : Ev} (h : MInv m) (hr : rightJ e = true) (hw : (Lit.int .i64 e.hg).wf = true) (hd : Did m e m') : MInv m' := by
  cases hd with
  | tick => exact ⟨h.top, h.arm⟩
  | fire hk ha => exact h.end_ (st_fat ha) (by omega)
  | cancel hk ho hy ha => exact h.end_ (st_fat ha) (by omega)
  | same => exact h
  | start hk ho he hs =>
    obtain ⟨a, b, c⟩ := h.start hs
    exact h.arm_ a b
  | rearm hk ho he ha h1 h2 => exact (h.rearm ha h1 (wrap_next hw (right_op hr hk).2.2.1 h2)).2
/-- The bench behind n events. -/
def benchN (nw : Int) (g : Nat → Ev) : Nat → Be
  | 0 => be0 nw
  | n + 1 => (hearF (benchN nw g n) (g n)).1
theorem bench_take (nw : Int) (l : List Ev) (g : Nat → Ev) (hg : ∀ i e, l[i]? = some e → g i = e) : ∀ n, n ≤ l.length → benchF (be0 nw) (l.take n) = benchN nw g n := by
  intro n
  induction n with
  | zero => intro _; rfl
  | succ n ih =>
    intro hn
    have hx : l[n]? = some l[n] := List.getElem?_eq_getElem (by omega)
    rw [List.take_succ_eq_append_getElem (by omega), benchF_snoc, ih (by omega), benchN, hg n _ hx]
theorem heard {nw : Int} {l : List Ev} {g : Nat → Ev} (hg : ∀ i e, l[i]? = some e → g i = e) (h : goF (be0 nw) l = none) {i : Nat} (hi : i < l.length) : (hearF (benchN nw g i) (g i)).2 = 0 := by
  have hx : l[i]? = some l[i] := List.getElem?_eq_getElem hi
  have h1 := goF_none h (i + 1)
  rw [List.take_succ_eq_append_getElem hi, goF_snoc _ _ _ (goF_none h i), bench_take nw l g hg i (by omega), ← hg i _ hx] at h1
  by_cases hc : (hearF (benchN nw g i) (g i)).2 = 0
  · exact hc
  · rw [if_neg hc] at h1; cases h1
/-- What the bench knows of what stands ahead. -/
structure JInv (g : Nat → Ev) (n : Nat) (b : Be) : Prop where
  m : MInv b.m
  none_ : ∀ h, b.m.fat h = none → madeN g n h = none
  armed : ∀ h, b.m.st h = 1 → ∃ j, madeN g n h = some j ∧ b.m.dl h = (g j).t
  over : ∀ j, j < n → ends (g j) = true → b.m.st (g j).h ≠ 1 ∧ b.m.fat (g j).h ≠ none
  work : ∀ w k, b.wks w = some k → ∃ j, j < n ∧ (g j).k = 2 ∧ (g j).wk = w ∧ k.op = (g j).op ∧ (k.hn, k.hg) = (g j).h ∧ (∀ i, j < i → i < n → (g i).wk = w → (g i).k ≠ 2 ∧ (g i).k ≠ 5) ∧
    ∀ p, k.pt = some p → ∃ i, i < n ∧ (g i).k = 3 ∧ (g i).op = k.op ∧ (k.op ≠ 1 → (g i).h = (g j).h) ∧ p = ptOf (g i)
theorem JInv0 (g : Nat → Ev) (nw : Int) : JInv g 0 (be0 nw) := ⟨MInv0, fun _ _ => rfl, fun h q => by simp [be0, md0, Md.st] at q, fun j hj => by omega, fun w k h => by cases h⟩
theorem madeN_ne {g : Nat → Ev} {n : Nat} {h : Ha} (hh : mk1 (g n) = false ∨ (g n).new ≠ h) : madeN g (n + 1) h = madeN g n h := madeN_no (by
  unfold mkP
  rcases hh with q | q
  · rw [q]; rfl
  · rw [decide_eq_false q, Bool.and_false])
theorem madeN_here {g : Nat → Ev} {n : Nat} {h : Ha} (h0 : madeN g n h = none) (hm : mk1 (g n) = true) (hh : (g n).new = h) : madeN g (n + 1) h = some n := by
  unfold madeN at h0 ⊢
  rw [firstN_succ_none h0, if_pos (by unfold mkP; rw [hm, decide_eq_true hh]; rfl)]
theorem madeN_up {g : Nat → Ev} {n j : Nat} {h : Ha} (h0 : madeN g n h = some j) : madeN g (n + 1) h = some j := firstN_succ_some h0
/-- The part of the model. -/
theorem JInv.model {g : Nat → Ev} {n : Nat} {b : Be} {m' : Md} (h : JInv g n b) (hr : rightJ (g n) = true) (hw : (Lit.int .i64 (g n).hg).wf = true) (hd : Did b.m (g n) m') :
    MInv m' ∧ (∀ x, m'.fat x = none → madeN g (n + 1) x = none) ∧ (∀ x, m'.st x = 1 → ∃ j, madeN g (n + 1) x = some j ∧ m'.dl x = (g j).t) ∧ (∀ j, j < n + 1 → ends (g j) = true → m'.st (g j).h ≠ 1 ∧ m'.fat (g j).h ≠ none) := by
  have hm := h.m.did hr hw hd
  refine ⟨hm, ?_⟩
  have old : ∀ j, j < n + 1 → j = n ∨ j < n := fun j hj => by omega
  have ended : ∀ s : Int, s ≠ 1 → b.m.st (g n).h = 1 → mk1 (g n) = false → m' = b.m.end_ (g n).h s → (∀ x, m'.fat x = none → madeN g (n + 1) x = none) ∧ (∀ x, m'.st x = 1 → ∃ j, madeN g (n + 1) x = some j ∧ m'.dl x = (g j).t) ∧ (∀ j, j < n + 1 → ends (g j) = true → m'.st (g j).h ≠ 1 ∧ m'.fat (g j).h ≠ none) := by
    intro s hs ha hk e
    subst e
    refine ⟨fun x hx => ?_, fun x hx => ?_, fun j hj he => ?_⟩
    · rw [end_fat] at hx
      by_cases e : x = (g n).h
      · rw [if_pos e] at hx; cases hx
      · rw [if_neg e] at hx; rw [madeN_ne (.inl hk)]; exact h.none_ x hx
    · rw [end_st] at hx
      by_cases e : x = (g n).h
      · rw [if_pos e] at hx; exact absurd hx hs
      · rw [if_neg e] at hx; rw [madeN_ne (.inl hk), end_dl, if_neg e]; exact h.armed x hx
    · rw [end_st, end_fat]
      by_cases e : (g j).h = (g n).h
      · rw [if_pos e, if_pos e]; exact ⟨hs, by simp⟩
      · rw [if_neg e, if_neg e]
        rcases old j hj with rfl | hj
        · exact absurd rfl e
        · exact h.over j hj he
  have armed : ∀ (m1 : Md) (q : Ha → Prop), (∀ x, m1.fat x = none → b.m.fat x = none) → (∀ x, m1.st x = 1 → b.m.st x = 1 ∧ m1.dl x = b.m.dl x) → (∀ j, j < n + 1 → ends (g j) = true → m1.st (g j).h ≠ 1 ∧ m1.fat (g j).h ≠ none) → b.m.fat (g n).new = none → m1.fat (g n).new = none → mk1 (g n) = true → m' = m1.arm (g n).new (g n).t →
      (∀ x, m'.fat x = none → madeN g (n + 1) x = none) ∧ (∀ x, m'.st x = 1 → ∃ j, madeN g (n + 1) x = some j ∧ m'.dl x = (g j).t) ∧ (∀ j, j < n + 1 → ends (g j) = true → m'.st (g j).h ≠ 1 ∧ m'.fat (g j).h ≠ none) := by
    intro m1 _ hf ha ho hn hn1 hk e
    subst e
    refine ⟨fun x hx => ?_, fun x hx => ?_, fun j hj he => ?_⟩
    · rw [arm_fat] at hx
      by_cases e : x = (g n).new
      · rw [if_pos e] at hx; cases hx
      · rw [if_neg e] at hx; rw [madeN_ne (.inr (Ne.symm e))]; exact h.none_ x (hf x hx)
    · rw [arm_st] at hx
      by_cases e : x = (g n).new
      · rw [e, arm_dl, if_pos rfl]
        exact ⟨n, madeN_here (h.none_ _ hn) hk rfl, rfl⟩
      · rw [if_neg e] at hx
        obtain ⟨a1, a2⟩ := ha x hx
        obtain ⟨j, b1, b2⟩ := h.armed x a1
        rw [arm_dl, if_neg e, a2]
        exact ⟨j, madeN_up b1, b2⟩
    · obtain ⟨o1, o2⟩ := ho j hj he
      have e : (g j).h ≠ (g n).new := fun q => o2 (by rw [q]; exact hn1)
      rw [arm_st, arm_fat, if_neg e, if_neg e]
      exact ⟨o1, o2⟩
  cases hd with
  | tick hk ht =>
    have h1 : mk1 (g n) = false := mk1_k (by omega)
    have h2 : ends (g n) = false := ends_k (by omega) (by omega)
    refine ⟨fun x hx => by rw [madeN_ne (.inl h1)]; exact h.none_ x hx, fun x hx => by rw [madeN_ne (.inl h1)]; exact h.armed x hx, fun j hj he => ?_⟩
    rcases old j hj with rfl | hj
    · rw [h2] at he; cases he
    · exact h.over j hj he
  | fire hk ha => exact ended 2 (by omega) ha (mk1_k (by omega)) rfl
  | cancel hk ho hy ha => exact ended 3 (by omega) ha (by unfold mk1; simp [ho]) rfl
  | same hk h1 h2 =>
    refine ⟨fun x hx => by rw [madeN_ne (.inl h1)]; exact h.none_ x hx, fun x hx => by rw [madeN_ne (.inl h1)]; exact h.armed x hx, fun j hj he => ?_⟩
    rcases old j hj with rfl | hj
    · rw [h2] at he; cases he
    · exact h.over j hj he
  | start hk ho he hs =>
    have hn := (h.m.start hs).2.2
    refine armed b.m (fun _ => True) (fun x q => q) (fun x q => ⟨q, rfl⟩) (fun j hj hq => ?_) hn hn (by unfold mk1; simp [hk, ho, he]) rfl
    rcases old j hj with rfl | hj
    · unfold ends at hq; simp [hk, ho] at hq
    · exact h.over j hj hq
  | rearm hk ho he ha h1 h2 =>
    have hn := (h.m.rearm (d := 0) ha (y := (g n).new) h1 (wrap_next hw (right_op hr hk).2.2.1 h2)).1
    have hne : (g n).new ≠ (g n).h := fun q => st_fat ha (by rw [← q]; exact hn)
    refine armed (b.m.end_ (g n).h 4) (fun _ => True) (fun x q => ?_) (fun x q => ?_) (fun j hj hq => ?_) hn (by rw [end_fat, if_neg hne]; exact hn) (by unfold mk1; simp [hk, ho, he]) rfl
    · rw [end_fat] at q
      by_cases e : x = (g n).h
      · rw [if_pos e] at q; cases q
      · rw [if_neg e] at q; exact q
    · rw [end_st] at q
      by_cases e : x = (g n).h
      · rw [if_pos e] at q; omega
      · rw [if_neg e] at q; rw [end_dl, if_neg e]; exact ⟨q, rfl⟩
    · rw [end_st, end_fat]
      by_cases e : (g j).h = (g n).h
      · rw [if_pos e, if_pos e]; exact ⟨by omega, by simp⟩
      · rw [if_neg e, if_neg e]
        rcases old j hj with rfl | hj
        · exact absurd rfl e
        · exact h.over j hj hq
/-- What a heard event was. -/
inductive Heard (b : Be) (e : Ev) : Be → Prop
  | tick (hk : e.k = 1) (hd : (doF b.m e).2 = 0) : Heard b e { b with m := (doF b.m e).1 }
  | invoke (hk : e.k = 2) (hr : rightJ e = true) (hw : b.wks e.wk = none) : Heard b e { b with wks := updW b.wks e.wk (some ⟨e.op, e.hn, e.hg, e.t, b.m.clk, none⟩) }
  | fire (hk : e.k = 4) (hd : (doF b.m e).2 = 0) : Heard b e { b with m := (doF b.m e).1 }
  | point (hk : e.k = 3) (k : Wk) (hw : b.wks e.wk = some k) (ho : k.op = e.op) (hp : pointOk b k e = true) (hd : (doF b.m e).2 = 0) : Heard b e { b with m := (doF b.m e).1, wks := updW b.wks e.wk (some { k with pt := some (ptOf e) }) }
  | back (hk : e.k = 5) (hr : rightJ e = true) (k : Wk) (hw : b.wks e.wk = some k) (ho : k.op = e.op) (ha : e.op ≤ 4 → answersB k e = true) : Heard b e { b with wks := updW b.wks e.wk none }
theorem right_k {e : Ev} (h : rightJ e = true) : e.k = 1 ∨ e.k = 2 ∨ e.k = 3 ∨ e.k = 4 ∨ e.k = 5 := by
  unfold rightJ Ev.evRight Ev.kindB at h
  simp at h
  omega
theorem heard_is {b : Be} {e : Ev} (h : (hearF b e).2 = 0) : Heard b e (hearF b e).1 := by
  unfold hearF at h ⊢
  by_cases hg : rightJ e = false ∨ b.nw ≤ e.wk
  · rw [if_pos hg] at h; simp at h
  rw [if_neg hg] at h ⊢
  have hr : rightJ e = true := by
    have : ¬ rightJ e = false := fun q => hg (.inl q)
    simpa using this
  have hkk := right_k hr
  by_cases k1 : e.k = 1
  · rw [if_pos k1] at h ⊢; exact .tick k1 h
  rw [if_neg k1] at h ⊢
  cases hw : b.wks e.wk with
  | none =>
    rw [hw] at h
    simp only at h ⊢
    by_cases k2 : e.k = 2
    · rw [if_pos k2]; exact .invoke k2 hr hw
    · rw [if_neg k2] at h; simp at h
  | some k =>
    rw [hw] at h
    simp only at h ⊢
    by_cases k2 : e.k = 2
    · rw [if_pos k2] at h; simp at h
    rw [if_neg k2] at h ⊢
    by_cases k4 : e.k = 4
    · rw [if_pos k4] at h ⊢
      by_cases hc : k.op ≠ 5 ∨ e.t < k.beg
      · rw [if_pos hc] at h; simp at h
      · rw [if_neg hc] at h ⊢; exact .fire k4 h
    rw [if_neg k4] at h ⊢
    by_cases ho : k.op ≠ e.op
    · rw [if_pos ho] at h; simp at h
    rw [if_neg ho] at h ⊢
    have ho' : k.op = e.op := by omega
    by_cases k3 : e.k = 3
    · rw [if_pos k3] at h ⊢
      unfold pointB at h ⊢
      by_cases hp : pointOk b k e = true
      · rw [if_pos hp] at h ⊢
        by_cases hd : (doF b.m e).2 = 0
        · rw [if_pos hd]; exact .point k3 k hw ho' hp hd
        · rw [if_neg hd] at h; exact absurd h hd
      · rw [if_neg hp] at h; simp at h
    rw [if_neg k3] at h ⊢
    by_cases ha : e.op ≤ 4 ∧ answersB k e = false
    · rw [if_pos ha] at h; simp at h
    · rw [if_neg ha]
      exact .back (by omega) hr k hw ho' fun q => by
        cases hc : answersB k e with
        | true => rfl
        | false => exact absurd ⟨q, hc⟩ ha
theorem JInv.step {g : Nat → Ev} {n : Nat} {b : Be} (h : JInv g n b) (hw : (Lit.int .i64 (g n).hg).wf = true) (hh : (hearF b (g n)).2 = 0) : JInv g (n + 1) (hearF b (g n)).1 := by
  have hH := heard_is hh
  generalize (hearF b (g n)).1 = b' at hH ⊢
  have keep : ∀ w, (g n).wk ≠ w ∨ ((g n).k ≠ 2 ∧ (g n).k ≠ 5) → ∀ k, b.wks w = some k → ∃ j, j < n + 1 ∧ (g j).k = 2 ∧ (g j).wk = w ∧ k.op = (g j).op ∧ (k.hn, k.hg) = (g j).h ∧ (∀ i, j < i → i < n + 1 → (g i).wk = w → (g i).k ≠ 2 ∧ (g i).k ≠ 5) ∧
      ∀ p, k.pt = some p → ∃ i, i < n + 1 ∧ (g i).k = 3 ∧ (g i).op = k.op ∧ (k.op ≠ 1 → (g i).h = (g j).h) ∧ p = ptOf (g i) := by
    intro w hn k hk
    obtain ⟨j, h1, h2, h3, h4, h5, h6, h7⟩ := h.work w k hk
    refine ⟨j, by omega, h2, h3, h4, h5, fun i hi hin hiw => ?_, fun p hp => ?_⟩
    · rcases Nat.lt_or_ge i n with q | q
      · exact h6 i hi q hiw
      · obtain rfl : i = n := by omega
        rcases hn with hn | hn
        · exact absurd hiw hn
        · exact hn
    · obtain ⟨i, i1, i2⟩ := h7 p hp
      exact ⟨i, by omega, i2⟩
  have still : (g n).k = 2 ∨ (g n).k = 5 → ∀ b'' : Be, b''.m = b.m → MInv b''.m ∧ (∀ x, b''.m.fat x = none → madeN g (n + 1) x = none) ∧ (∀ x, b''.m.st x = 1 → ∃ j, madeN g (n + 1) x = some j ∧ b''.m.dl x = (g j).t) ∧ (∀ j, j < n + 1 → ends (g j) = true → b''.m.st (g j).h ≠ 1 ∧ b''.m.fat (g j).h ≠ none) := by
    intro hk b'' e
    rw [e]
    have h1 : mk1 (g n) = false := mk1_k (by omega)
    have h2 : ends (g n) = false := ends_k (by omega) (by omega)
    refine ⟨h.m, fun x hx => by rw [madeN_ne (.inl h1)]; exact h.none_ x hx, fun x hx => by rw [madeN_ne (.inl h1)]; exact h.armed x hx, fun j hj he => ?_⟩
    rcases Nat.lt_or_ge j n with q | q
    · exact h.over j q he
    · obtain rfl : j = n := by omega
      rw [h2] at he; cases he
  cases hH with
  | tick hk hd =>
    obtain ⟨hr, hdd⟩ := did hd
    obtain ⟨a, b1, c, d⟩ := h.model hr hw hdd
    exact ⟨a, b1, c, d, fun w k hq => keep w (.inr (by omega)) k hq⟩
  | fire hk hd =>
    obtain ⟨hr, hdd⟩ := did hd
    obtain ⟨a, b1, c, d⟩ := h.model hr hw hdd
    exact ⟨a, b1, c, d, fun w k hq => keep w (.inr (by omega)) k hq⟩
  | invoke hk hr hn =>
    obtain ⟨a, b1, c, d⟩ := still (.inl hk) { b with wks := updW b.wks (g n).wk (some ⟨(g n).op, (g n).hn, (g n).hg, (g n).t, b.m.clk, none⟩) } rfl
    refine ⟨a, b1, c, d, fun w k hq => ?_⟩
    have hq' : updW b.wks (g n).wk (some ⟨(g n).op, (g n).hn, (g n).hg, (g n).t, b.m.clk, none⟩) w = some k := hq
    unfold updW at hq'
    by_cases e : w = (g n).wk
    · rw [if_pos e] at hq'
      obtain rfl := Option.some.inj hq'
      exact ⟨n, by omega, hk, e.symm, rfl, rfl, fun i hi hin => by omega, fun p hp => by cases hp⟩
    · rw [if_neg e] at hq'
      exact keep w (.inl (Ne.symm e)) k hq'
  | point hk k hwk ho hp hd =>
    obtain ⟨hr, hdd⟩ := did hd
    obtain ⟨a, b1, c, d⟩ := h.model hr hw hdd
    refine ⟨a, b1, c, d, fun w k' hq => ?_⟩
    have hq' : updW b.wks (g n).wk (some { k with pt := some (ptOf (g n)) }) w = some k' := hq
    unfold updW at hq'
    by_cases e : w = (g n).wk
    · rw [if_pos e] at hq'
      obtain rfl := Option.some.inj hq'
      obtain ⟨j, h1, h2, h3, h4, h5, h6, h7⟩ := keep w (.inr (by omega)) k (by rw [e]; exact hwk)
      refine ⟨j, h1, h2, h3, h4, h5, h6, fun p hpp => ?_⟩
      obtain rfl := Option.some.inj hpp
      refine ⟨n, by omega, hk, ho.symm, fun ho1 => ?_, rfl⟩
      unfold pointOk at hp
      have ho2 : (g n).op ≠ 1 := by rw [← ho]; exact ho1
      have q : (g n).hn = k.hn ∧ (g n).hg = k.hg := by
        simp [ho2] at hp
        exact ⟨hp.1.2.1, hp.1.2.2⟩
      rw [← h5]
      exact Prod.ext q.1 q.2
    · rw [if_neg e] at hq'
      exact keep w (.inl (Ne.symm e)) k' hq'
  | back hk hr k hwk ho ha =>
    obtain ⟨a, b1, c, d⟩ := still (.inr hk) { b with wks := updW b.wks (g n).wk none } rfl
    refine ⟨a, b1, c, d, fun w k' hq => ?_⟩
    have hq' : updW b.wks (g n).wk none w = some k' := hq
    unfold updW at hq'
    by_cases e : w = (g n).wk
    · rw [if_pos e] at hq'; cases hq'
    · rw [if_neg e] at hq'
      exact keep w (.inl (Ne.symm e)) k' hq'
theorem jinv_all {nw : Int} {g : Nat → Ev} {N : Nat} (hw : ∀ i, i < N → (Lit.int .i64 (g i).hg).wf = true) (hh : ∀ i, i < N → (hearF (benchN nw g i) (g i)).2 = 0) : ∀ n, n ≤ N → JInv g n (benchN nw g n) := by
  intro n
  induction n with
  | zero => intro _; exact JInv0 g nw
  | succ n ih => intro hn; exact (ih (by omega)).step (hw n (by omega)) (hh n (by omega))
theorem judged_none {nw : Int} {g : Nat → Ev} {N : Nat} (hw : ∀ i, i < N → (Lit.int .i64 (g i).hg).wf = true) (hh : ∀ i, i < N → (hearF (benchN nw g i) (g i)).2 = 0) {i : Nat} (hi : i < N) : twiceP g i = false ∧ earlyP g i = false ∧ wrongP g i = false := by
  have INV := jinv_all hw hh i (by omega)
  by_cases hk : (g i).k = 4
  · have hH := heard_is (hh i hi)
    have hfire : (benchN nw g i).m.st (g i).h = 1 ∧ (benchN nw g i).m.dl (g i).h ≤ (g i).t := by
      have hdd : (doF (benchN nw g i).m (g i)).2 = 0 := by
        generalize (hearF (benchN nw g i) (g i)).1 = b' at hH
        cases hH with
        | tick hk1 hd => exact hd
        | fire _ hd => exact hd
        | invoke hk1 => omega
        | point hk1 => omega
        | back hk1 => omega
      have h2 := (did hdd).2
      generalize (doF (benchN nw g i).m (g i)).1 = m' at h2
      cases h2 with
      | fire _ ha hd => exact ⟨ha, hd⟩
      | tick hk1 => omega
      | cancel hk1 => omega
      | same hk1 => omega
      | start hk1 => omega
      | rearm hk1 => omega
    obtain ⟨ha, hd⟩ := hfire
    have noEnds : ∀ j, j < i → ends (g j) = true → (g j).h ≠ (g i).h := fun j hj he q => (INV.over j hj he).1 (by rw [q]; exact ha)
    refine ⟨?_, ?_, ?_⟩
    · unfold twiceP
      rw [beq_iff_eq.2 hk, Bool.true_and, Bool.eq_false_iff]
      intro h
      obtain ⟨j, hj, hp⟩ := anyN_true.1 h
      simp only [Bool.and_eq_true, beq_iff_eq, decide_eq_true_eq] at hp
      exact noEnds j hj (by unfold ends; simp [hp.1]) hp.2
    · unfold earlyP
      obtain ⟨m, hm, hdl⟩ := INV.armed _ ha
      rw [beq_iff_eq.2 hk, hm, Bool.true_and]
      exact decide_eq_false (by omega)
    · unfold wrongP
      rw [beq_iff_eq.2 hk, Bool.true_and, Bool.eq_false_iff]
      intro h
      obtain ⟨b, hb, hp⟩ := anyN_true.1 h
      simp only [Bool.and_eq_true, beq_iff_eq, decide_eq_true_eq] at hp
      obtain ⟨hk2, hbh, he⟩ := hp
      cases hen : endN g i b with
      | none => rw [hen] at he; cases he
      | some e =>
        rw [hen] at he
        simp only at he
        obtain ⟨hei, hbe, hek⟩ := endN_lt hen
        have hfst : firstN (endP g b) i = some e := by
          unfold endN at hen
          cases hf : firstN (endP g b) i with
          | none => rw [hf] at hen; cases hen
          | some q =>
            rw [hf] at hen
            simp only [Option.bind_some] at hen
            split at hen
            · rw [Option.some.inj hen]
            · cases hen
        obtain ⟨_, hpe, hmin⟩ := firstN_some hfst
        have hpe' : (g e).wk = (g b).wk ∧ (g e).op = (g b).op := by
          unfold endP at hpe
          simp [hek] at hpe
          exact ⟨hpe.2.1, hpe.2.2⟩
        have INVe := jinv_all hw hh e (by omega)
        have hHe := heard_is (hh e (by omega))
        generalize (hearF (benchN nw g e) (g e)).1 = b' at hHe
        cases hHe with
        | tick hk1 => omega
        | invoke hk1 => omega
        | fire hk1 => omega
        | point hk1 => omega
        | back _ hr k hwk ho hans =>
          obtain ⟨j, h1, h2, h3, h4, h5, h6, h7⟩ := INVe.work _ k hwk
          have hjb : j = b := by
            rcases Nat.lt_trichotomy j b with q | q | q
            · exact absurd hk2 (h6 b q hbe hpe'.1.symm).1
            · exact q
            · have := hmin j h1
              unfold endP at this
              rw [decide_eq_true q, decide_eq_true (h3.trans hpe'.1), h2] at this
              simp at this
          subst hjb
          have hop : (g j).op = 2 ∨ (g j).op = 3 := by
            unfold overE at he
            simp at he
            omega
          have ha4 := hans (by omega)
          unfold answersB at ha4
          cases hpt : k.pt with
          | none => rw [hpt] at ha4; cases ha4
          | some p =>
            obtain ⟨p1, p2, p3, p4⟩ := p
            rw [hpt] at ha4
            simp at ha4
            obtain ⟨i', hi', hk3, ho3, hh3, hpp⟩ := h7 _ hpt
            unfold ptOf at hpp
            simp only [Prod.mk.injEq] at hpp
            obtain ⟨_, _, q3, q4⟩ := hpp
            have hy : (g i').y = (g e).y := by rw [← q3, ha4.1.2]
            have her : (g i').er = (g e).er := by rw [← q4, ha4.2]
            refine noEnds i' (by omega) ?_ ((hh3 (by omega)).trans hbh)
            unfold ends
            unfold overE at he
            rw [hk3, ho3, h4, hy, her]
            rcases hop with q | q <;> simp [q] at he ⊢ <;> exact he
  · have q : ((g i).k == 4) = false := beq_eq_false_iff_ne.2 hk
    refine ⟨?_, ?_, ?_⟩
    · unfold twiceP; rw [q]; rfl
    · unfold earlyP; rw [q]; rfl
    · unfold wrongP; rw [q]; rfl
theorem judged {nw : Int} {l : List Ev} {g : Nat → Ev} (hg : ∀ i e, l[i]? = some e → g i = e) (hw : ∀ e ∈ l, (Lit.int .i64 e.hg).wf = true) (h : goF (be0 nw) l = none) : twiceI g l.length = -1 ∧ earlyI g l.length = -1 ∧ wrongI g l.length = -1 := by
  have key := fun i (hi : i < l.length) => judged_none (nw := nw) (g := g) (N := l.length) (fun i hi => by
    have hx : l[i]? = some l[i] := List.getElem?_eq_getElem hi
    rw [hg i _ hx]
    exact hw _ (List.getElem_mem hi)) (fun i hi => heard hg h hi) hi
  unfold twiceI earlyI wrongI
  rw [firstN_mk0 (fun j hj => (key j hj).1), firstN_mk0 (fun j hj => (key j hj).2.1), firstN_mk0 (fun j hj => (key j hj).2.2)]
  exact ⟨rfl, rfl, rfl⟩
end Go.Proofs.Ythniclbmpeklmaa.Ju
end
section
namespace Go.Proofs.Ythniclbmpeklmaa.KAj
open Go.RowKit Go.Proofs.YthniclbmpeklmaaW.PrintWords Go.Proofs.Ythniclbmpeklmaa.Ju
open Go.Proofs.YthniclbmpeklmaaW.PrintWords renaming Ev → PE
set_option linter.unusedVariables false
set_option linter.unusedSimpArgs false
theorem Ev.self {α : Type} {g : Nat → Option α} {r : α} (h : ∀ k, g (k + 1) = some r) : PE g r := PE.step h (PE.now r)
theorem w64 {i n : Nat} (h : i < n) (hn : n ≤ 1000000) : wrap64 ((i : Int) + 1) = ((i + 1 : Nat) : Int) := by unfold wrap64; omega
def toE (x : S50) : Au.Ev := ⟨x.f0, x.f1, x.f2, x.f3.f0, x.f3.f1, x.f4.f0, x.f4.f1, x.f5, x.f6, x.f7, x.f8, x.f9⟩
def ofS (x : S50) : S54 := ⟨x.f0, x.f1, x.f2, ⟨x.f3.f0, x.f3.f1⟩, ⟨x.f4.f0, x.f4.f1⟩, x.f5, x.f6, x.f7, x.f8, x.f9⟩
theorem ofs_is (l : List S50) (hn : l.length ≤ 1000000) : PE (fun k => knelllaw11_Ofs.f k l) (l.map ofS) := by
  have go : ∀ d i, i + d = l.length → PE (fun k => knelllaw11_Ofs.l0 k ((l.take i).map ofS) l (l.length : Int) (i : Int)) (l.map ofS) := by
    intro d
    induction d with
    | zero =>
      intro i hd
      obtain rfl : i = l.length := by omega
      refine Ev.self fun k => ?_
      rw [knelllaw11_Ofs.l0, if_neg (by omega), List.take_length]
    | succ d ih =>
      intro i hd
      refine PE.step (f := fun k => knelllaw11_Ofs.l0 k ((l.take (i + 1)).map ofS) l (l.length : Int) ((i + 1 : Nat) : Int)) (fun k => ?_) (ih (i + 1) (by omega))
      have hi : i < l.length := by omega
      have hrd : rd_T50 l (i : Int) = l[i] := by show l.getD i z50 = l[i]; simp [List.getD, hi]
      rw [knelllaw11_Ofs.l0, if_pos (by omega), if_pos (by omega), if_pos (by omega)]
      unfold knelllaw11_Of.f
      simp only [Option.bind_some]
      rw [if_pos (by simp; omega), w64 hi hn, hrd, List.take_succ_eq_append_getElem hi, List.map_append]
      rfl
  exact go l.length 0 (by omega)
theorem wf_ofS {l : List S50} (hw : ∀ x ∈ l, Au.wfB (toE x) = true) : ((l.map ofS).all fun x => Au.wfB (audit_Twice.ev x)) = true := by
  rw [List.all_eq_true]
  intro y hy
  obtain ⟨x, hx, rfl⟩ := List.mem_map.1 hy
  exact hw x hx
theorem wfB_to {e : Au.Ev} (h : Au.wfB e = true) : wfB' e = true := by
  unfold Au.wfB at h
  unfold wfB'
  simp only [Bool.and_eq_true] at h ⊢
  exact ⟨⟨⟨⟨h.1, h.2.1⟩, h.2.2.1⟩, h.2.2.2.1⟩, h.2.2.2.2⟩
theorem jj {l : List S50} (hn : l.length ≤ 1000) (hw : ∀ x ∈ l, Au.wfB (toE x) = true) (a0 : Int) : judge_Judge.f (l.map ofS) a0 = some (judgeF (l.map toE) a0) := by
  unfold judge_Judge.f
  have h2 : ((l.map ofS).all fun x => wfB' (judge_Judge.ev x)) = true := by
    rw [List.all_eq_true]
    intro y hy
    obtain ⟨x, hx, rfl⟩ := List.mem_map.1 hy
    exact wfB_to (hw x hx)
  rw [if_pos ⟨by rw [List.length_map]; omega, h2⟩, List.map_map]
  rfl
theorem speaks14 : knelllaw14_speaks.f = some true := by decide +kernel
theorem hear_right {b : Be} {e : Au.Ev} (h : (hearF b e).2 = 0) : rightJ e = true := by
  have hH := heard_is h
  generalize (hearF b e).1 = b' at hH
  cases hH with
  | tick hk hd => exact (did hd).1
  | invoke hk hr => exact hr
  | fire hk hd => exact (did hd).1
  | point hk k hw ho hp hd => exact (did hd).1
  | back hk hr => exact hr
theorem goF_right {l : List Au.Ev} : ∀ {b : Be}, goF b l = none → ∀ e ∈ l, rightJ e = true := by
  induction l with
  | nil => intro b _ e he; cases he
  | cons x l ih =>
    intro b h e he
    unfold goF at h
    by_cases hk : (hearF b x).2 = 0
    · rw [if_pos hk] at h
      rcases List.mem_cons.1 he with rfl | he
      · exact hear_right hk
      · exact ih (Option.map_eq_none_iff.1 h) e he
    · rw [if_neg hk] at h; cases h
theorem AuditJudged (l0 : List S50) (a1 : Int) (hw : ∀ x ∈ l0, Au.wfB (toE x) = true) : ∃ k, knelllaw14_AuditJudged.f k l0 a1 = some true := by
  have yes : ∃ k, knelllaw14_AuditJudged.j0 k l0 a1 true = some true := ⟨1, by rw [knelllaw14_AuditJudged.j0, if_pos rfl, speaks14]; rfl⟩
  unfold knelllaw14_AuditJudged.f
  simp only [speaks14, Option.bind_some, if_true]
  by_cases hn : (l0.length : Int) > 60
  · simp only [if_pos hn]; exact yes
  simp only [if_neg hn]
  by_cases h1 : a1 < 1
  · simp only [if_pos h1]; exact yes
  simp only [if_neg h1]
  by_cases h6 : a1 > 64
  · rw [decide_eq_true h6]; exact yes
  rw [decide_eq_false h6]
  refine PE.rounds (PE.step (fun k => by rw [knelllaw14_AuditJudged.j0, if_neg (by decide)]) (PE.bind (ofs_is l0 (by omega)) (PE.congr (fun k => ?_) (PE.now true))))
  rw [jj (by omega) hw, Option.bind_some]
  have hj : judgeF (l0.map toE) a1 = outF (goF (be0 a1) (l0.map toE)) := by unfold judgeF; rw [if_neg (by omega)]
  rw [hj]
  cases hg : goF (be0 a1) (l0.map toE) with
  | some p =>
    obtain ⟨i, c⟩ := p
    rw [if_neg (show ¬ (outF (some (i, c))).2 = 0 from (goF_some hg).2.1)]
  | none =>
    rw [if_pos (show (outF none).2 = 0 from rfl)]
    have hwl : ∀ e ∈ l0.map toE, (Lit.int .i64 e.hg).wf = true := fun e he => by
      obtain ⟨x, hx, rfl⟩ := List.mem_map.1 he
      exact (wfJ_of (wfB_to (hw x hx))).1.2.1
    obtain ⟨t1, t2, t3⟩ := judged (g := Au.gOf (l0.map toE)) (fun i e he => by rw [Au.g_at he]; exact if_pos (show Au.rightE e = true from goF_right hg e (Au.get_mem he))) hwl hg
    rw [List.length_map] at t1 t2 t3
    have hlen : l0.length ≤ 1000000 := by omega
    have e1 : audit_Twice.f (l0.map ofS) = some (-1) := by
      unfold audit_Twice.f
      rw [if_pos ⟨by rw [List.length_map]; exact hlen, wf_ofS hw⟩, List.map_map, List.length_map, ← t1]
      rfl
    have e2 : audit_Early.f (l0.map ofS) = some (-1) := by
      unfold audit_Early.f
      rw [if_pos ⟨by rw [List.length_map]; exact hlen, wf_ofS hw⟩, List.map_map, List.length_map, ← t2]
      rfl
    have e3 : audit_Wrong.f (l0.map ofS) = some (-1) := by
      unfold audit_Wrong.f
      rw [if_pos ⟨by rw [List.length_map]; exact hlen, wf_ofS hw⟩, List.map_map, List.length_map, ← t3]
      rfl
    rw [e1, e2, e3]
    rfl
end Go.Proofs.Ythniclbmpeklmaa.KAj
end
section
namespace Go.Proofs.Ythniclbmpeklmaa.Krow
open Go.ChangeShapes Go.WideShapes Go.Deep Go.Proofs.YthniclbmpeklmaaW.PrintWords
/-- One cell of plain data. -/
inductive Leaf where
  | int (k : IntKind)
  | bool
def Leaf.ok : Leaf → Value → Prop
  | .int k, v => ∃ n, v = .int k n ∧ (Lit.int k n).wf = true
  | .bool, v => ∃ b, v = .bool b
def Leaves : List Leaf → List Value → Prop
  | [], [] => True
  | l :: ls, v :: vs => l.ok v ∧ Leaves ls vs
  | _, _ => False
theorem Leaves.length : ∀ {ls : List Leaf} {vs : List Value}, Leaves ls vs → vs.length = ls.length
  | [], [], _ => rfl
  | _ :: _, _ :: _, h => by simp [Leaves.length h.2]
theorem Leaves.append : ∀ {a b : List Leaf} {vs ws : List Value}, Leaves a vs → Leaves b ws → Leaves (a ++ b) (vs ++ ws)
  | [], _, [], _, _, h => h
  | _ :: _, _, _ :: _, _, h, h' => ⟨h.1, Leaves.append h.2 h'⟩
theorem Leaves.int {k : IntKind} {ls : List Leaf} {vs : List Value} (h : Leaves (.int k :: ls) vs) : ∃ n r, vs = .int k n :: r ∧ (Lit.int k n).wf = true ∧ Leaves ls r := by
  match vs, h with
  | _ :: r, ⟨⟨n, rfl, hw⟩, h⟩ => exact ⟨n, r, rfl, hw, h⟩
theorem Leaves.boole {ls : List Leaf} {vs : List Value} (h : Leaves (.bool :: ls) vs) : ∃ b r, vs = .bool b :: r ∧ Leaves ls r := by
  match vs, h with
  | _ :: r, ⟨⟨b, rfl⟩, h⟩ => exact ⟨b, r, rfl, h⟩
theorem Leaves.nil {vs : List Value} (h : Leaves [] vs) : vs = [] := by
  match vs, h with
  | [], _ => rfl
theorem collect {α : Type} {p : Nat → α → Prop} {len : Nat} (key : ∀ i, i < len → ∃ x : α, p i x) : ∃ l : List α, l.length = len ∧ ∀ i x, l[i]? = some x → p i x := by
  induction len with
  | zero => exact ⟨[], rfl, fun i x h => by simp at h⟩
  | succ len ih =>
    obtain ⟨l, hl, hx⟩ := ih (fun i hi => key i (by omega))
    obtain ⟨x, hp⟩ := key len (by omega)
    refine ⟨l ++ [x], by simp [hl], fun i y hy => ?_⟩
    by_cases hi : i < len
    · rw [List.getElem?_append_left (by omega)] at hy
      exact hx i y hy
    · rw [List.getElem?_append_right (by omega)] at hy
      have : i - l.length = 0 := by
        have := (List.getElem?_eq_some_iff.1 hy).1
        simp at this
        omega
      rw [this] at hy
      obtain rfl : x = y := by simpa using hy
      obtain rfl : i = len := by omega
      exact hp
/-- The cells of a struct's fields, one behind the other. -/
def fieldsOf (f : TypeId → Option (List Leaf)) (P : Program) : List Field → Nat → Option (List Leaf)
  | [], _ => some []
  | x :: r, off => (f x.type).bind fun ls => if x.offset = off ∧ P.cellsOf x.type = ls.length then (fieldsOf f P r (off + ls.length)).map (ls ++ ·) else none
/-- A type of plain data: its cells. -/
def plainOf (P : Program) : Nat → TypeId → Option (List Leaf)
  | 0, _ => none
  | n + 1, t => match P.underlying t with
    | some (.int k) => some [.int k]
    | some .bool => some [.bool]
    | some (.struct fs) => (fieldsOf (plainOf P n) P fs.toList 0).bind fun ls => if P.cellsOf t = ls.length then some ls else none
    | some (.array m e) => (plainOf P n e).bind fun ls => if P.cellsOf e = ls.length ∧ P.cellsOf t = m * ls.length then some ((List.replicate m ls).flatten) else none
    | _ => none
section
variable {H : Type} {enc : TypeId × Value → H} {P : Program} {w : World} {base : Nat} {spare : Nat → Bool} {held : Bool}
theorem fields_leaves {n : Nat} (ih : ∀ (t : TypeId) (ls : List Leaf) (fuel : Nat) (cs : List Value) (x : DataW H × List MemPlace), plainOf P n t = some ls → DataW.trod enc P w base spare held fuel t cs = some x → Leaves ls cs) (cs : List Value) (m : Nat) :
    ∀ (fs : List Field) (off : Nat) (ls : List Leaf), (∀ (i : Nat) (f : Field), fs[i]? = some f → ∃ x, DataW.trod enc P w base spare held m f.type ((cs.drop f.offset).take (P.cellsOf f.type)) = some x) →
      fieldsOf (plainOf P n) P fs off = some ls → Leaves ls ((cs.drop off).take ls.length) := by
  intro fs
  induction fs with
  | nil =>
    intro off ls _ h
    simp only [fieldsOf, Option.some.injEq] at h
    subst h
    simp [Leaves]
  | cons f r ihr =>
    intro off ls hx h
    simp only [fieldsOf] at h
    obtain ⟨l1, h1, h⟩ := Option.bind_eq_some_iff.1 h
    by_cases hc : f.offset = off ∧ P.cellsOf f.type = l1.length
    · rw [if_pos hc] at h
      obtain ⟨l2, h2, rfl⟩ := Option.map_eq_some_iff.1 h
      obtain ⟨x, hx0⟩ := hx 0 f rfl
      rw [hc.1, hc.2] at hx0
      have a1 := ih f.type l1 m _ x h1 hx0
      have a2 := ihr (off + l1.length) l2 (fun i g hg => hx (i + 1) g hg) h2
      have e : (cs.drop off).take (l1 ++ l2).length = (cs.drop off).take l1.length ++ (cs.drop (off + l1.length)).take l2.length := by
        rw [List.length_append, List.take_add, List.drop_drop]
      rw [e]
      exact a1.append a2
    · rw [if_neg hc] at h
      cases h
theorem blocks_leaves (ls : List Leaf) (cs : List Value) : ∀ (m off : Nat), (∀ i, i < m → Leaves ls ((cs.drop ((off + i) * ls.length)).take ls.length)) → Leaves ((List.replicate m ls).flatten) ((cs.drop (off * ls.length)).take (m * ls.length)) := by
  intro m
  induction m with
  | zero => intro off _; simp [Leaves]
  | succ m ih =>
    intro off h
    have a1 := h 0 (by omega)
    have a2 := ih (off + 1) (fun i hi => by have := h (i + 1) (by omega); rw [show off + 1 + i = off + (i + 1) by omega]; exact this)
    rw [Nat.add_zero] at a1
    rw [List.replicate_succ, List.flatten_cons, show (m + 1) * ls.length = ls.length + m * ls.length by rw [Nat.add_mul]; omega, List.take_add, List.drop_drop, show off * ls.length + ls.length = (off + 1) * ls.length by rw [Nat.add_mul]; omega]
    exact a1.append a2
/-- WHAT READS AS PLAIN DATA, CELL BY CELL. -/
theorem plain_trod : ∀ (n : Nat) (t : TypeId) (ls : List Leaf) (fuel : Nat) (cs : List Value) (x : DataW H × List MemPlace), plainOf P n t = some ls → DataW.trod enc P w base spare held fuel t cs = some x → Leaves ls cs := by
  intro n
  induction n with
  | zero => intro t ls fuel cs x h; cases h
  | succ n ih =>
    intro t ls fuel cs x h hx
    unfold plainOf at h
    split at h
    · rename_i k hu
      obtain rfl := Option.some.inj h
      obtain ⟨a, rfl, _, hw⟩ := DataW.trod_int hu hx
      exact ⟨⟨a, rfl, hw⟩, trivial⟩
    · rename_i hu
      obtain rfl := Option.some.inj h
      obtain ⟨b, rfl, _⟩ := DataW.trod_bool hu hx
      exact ⟨⟨b, rfl⟩, trivial⟩
    · rename_i fs hu
      obtain ⟨l, h1, h⟩ := Option.bind_eq_some_iff.1 h
      by_cases hc : P.cellsOf t = l.length
      · rw [if_pos hc] at h
        obtain rfl := Option.some.inj h
        obtain ⟨xs, m, _, _, hl, hlen, hf⟩ := DataW.trod_struct hu hx
        have := fields_leaves ih cs m fs.toList 0 l (fun i f hi => by
          have hi' : fs[i]? = some f := by simpa using hi
          rw [hf i f hi']
          have : i < xs.length := by rw [hlen]; exact (Array.getElem?_eq_some_iff.1 hi').1
          exact ⟨_, List.getElem?_eq_getElem this⟩) h1
        rw [List.drop_zero, List.take_of_length_le (by omega)] at this
        exact this
      · rw [if_neg hc] at h
        cases h
    · rename_i m e hu
      obtain ⟨l, h1, h⟩ := Option.bind_eq_some_iff.1 h
      by_cases hc : P.cellsOf e = l.length ∧ P.cellsOf t = m * l.length
      · rw [if_pos hc] at h
        obtain rfl := Option.some.inj h
        obtain ⟨xs, q, _, _, hl, hlen, hf⟩ := DataW.trod_array hu hx
        have := blocks_leaves l cs m 0 (fun i hi => by
          have h2 := hf i hi
          rw [List.getElem?_eq_getElem (by omega), hc.1] at h2
          rw [Nat.zero_add]
          exact ih e l q _ _ h1 h2)
        rw [Nat.zero_mul, List.drop_zero, List.take_of_length_le (by omega)] at this
        exact this
      · rw [if_neg hc] at h
        cases h
    · cases h
/-- An argument that is a slice of plain data: its elements, as the print's words have them. -/
theorem open_rows {α : Type} (D : Kd α) (good : α → Prop) {r : Reach} {b0 : Nat} {t e : TypeId} {v : Value} {d : DataW H} {ps : List MemPlace} {n : Nat} {ls : List Leaf} (hu : P.underlying t = some (.slice e)) (hp : plainOf P n e = some ls) (hc : P.cellsOf e = ls.length) (hsz : D.sz = ls.length)
    (mk : ∀ cs : List Value, Leaves ls cs → ∃ x : α, D.K w x cs ∧ good x)
    (hv : Value.okWide P w r b0 t v) (h : DataW.Trod enc P w base spare held t v d ps) :
    ∃ (A : Option Addr) (c : Nat) (l : List α), v = .slice A l.length c ∧ l.length ≤ c ∧ l.length ≤ 9223372036854775807 ∧ Kd.C D w A l.length l ∧ ∀ x ∈ l, good x := by
  obtain ⟨A, len, cap, rfl⟩ := okWide_slice hu hv
  obtain ⟨fuel, hf⟩ := h
  rcases open_slice hu hf with ⟨hcs, _⟩ | ⟨a, len', cap', m, q, Ds, Pl, hcs, _, hl, hm, hmm, _, hi⟩
  · simp [Value.cells] at hcs
    obtain ⟨rfl, rfl, rfl⟩ := hcs
    exact ⟨none, 0, [], rfl, Nat.le_refl _, by simp, ⟨rfl, by simp, fun h => absurd h (by simp)⟩, by simp⟩
  · simp [Value.cells] at hcs
    obtain ⟨rfl, rfl, rfl⟩ := hcs
    have hlm : len ≤ m := by
      rw [hmm]
      split
      · exact hl
      · exact Nat.le_refl _
    have key : ∀ i, i < len → ∃ (x : α) (cs : List Value), D.K w x cs ∧ good x ∧ cs.length = ls.length ∧ ∀ j u, cs[j]? = some u → w.cell? (a.add (i * ls.length + j)) = some u := by
      intro i hil
      obtain ⟨cs', h1, h2⟩ := hi i (by omega)
      rw [hc] at h1
      obtain ⟨_, hlen, hcell⟩ := World.cells?_some h1
      obtain ⟨x, hx, hg⟩ := mk cs' (plain_trod n e ls q cs' _ hp h2)
      refine ⟨x, cs', hx, hg, hlen, fun j u hu => ?_⟩
      have hj : j < ls.length := by rw [← hlen]; exact (List.getElem?_eq_some_iff.1 hu).1
      rw [← Go.Deep.add_add, hcell j hj, hu]
    have ch := collect key
    obtain ⟨l, rfl, hx⟩ := ch
    have hm' : cap ≤ 9223372036854775807 := hm
    refine ⟨some a, cap, l, rfl, hl, by omega, ⟨rfl, by omega, fun _ => ⟨a, rfl, fun j p hj => ?_⟩⟩, fun x hxl => ?_⟩
    · obtain ⟨cs, h1, _, h3, h4⟩ := hx j p hj
      refine ⟨cs, by rw [h3, hsz], h1, ?_⟩
      rw [hsz]
      exact h4
    · obtain ⟨i, hi⟩ := List.mem_iff_getElem?.1 hxl
      obtain ⟨_, _, h2, _⟩ := hx i x hi
      exact h2
end
end Go.Proofs.Ythniclbmpeklmaa.Krow
end
