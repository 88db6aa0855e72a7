/- What is proved: (*story).first gives the first place of an event of a kind of which a closure says yes, whatever closure keeps what it asks. -/
import Derived.Test.YthniclbmpeklmaaAuS
import Derived.Deep.LoopGhost
import Derived.BigQuiet
namespace Go.Proofs.Ythniclbmpeklmaa.Au
open Go.RowKit Go.Maps Go.Proofs.YthniclbmpeklmaaW.PrintWords Go.Proofs.YthniclbmpeklmaaW.PrintLast Go.Proofs.YthniclbmpeklmaaW.PrintMore Go.Proofs.Ythniclbmpeklmaa.Mp
set_option linter.unusedVariables false
set_option linter.unusedSimpArgs false
def FirstPost (p : Nat → Bool) (n : Nat) (I : Nat → World → Prop) (e : Ending) (w' : World) : Prop := e = .returned (.int .i64 (oI (firstN p n))) ∧ ∃ i, I i w'
set_option maxHeartbeats 4000000 in
set_option maxRecDepth 100000 in
theorem first_twice {B b n m1 m2 : Nat} {s : Story} {vl vv vc : Value} (cap : Array Value) (kind : Int) (p : Nat → Bool) (I : Nat → World → Prop) (hn : s.l.length ≤ 1000000)
    (hS : ∀ i W, I i W → StIs W B b n s vl vv vc m1 m2)
    (hB : ∀ i W W', I i W → Below W.heap.size W W' → I i W')
    (hskip : ∀ (i : Nat) e W, s.l[i]? = some e → e.k ≠ kind → I i W → I (i + 1) W ∧ p i = false)
    (hcall : ∀ (i : Nat) e W, s.l[i]? = some e → e.k = kind → I i W → Calls Try.prog 49 (#[.int .i64 (i : Int), .agg (evA e)] ++ cap) W fun r W' => r = .returned (.bool (p i)) ∧ I (i + 1) W') (w : World) (h0 : I 0 w) :
    Calls Try.prog 48 #[.pointer (some ⟨b, 0, none⟩), .int .i64 kind, .func (.func 49) #[] cap] w (FirstPost p s.l.length I) := by
  have hu97 := Try.underlying97
  have hu54 := Try.underlying54
  obtain ⟨A0, c0, rfl, hc0⟩ := (hS 0 w h0).rl.form
  have hlt := (hS 0 w h0).lt
  have hc := fun i => (hS 0 w h0).cell i
  have HS := Aside0.mk hS
  have HB := Aside0.mk hB
  have HK := Aside0.mk hskip
  have HC := Aside0.mk hcall
  have HN := Aside0.mk hn
  have HI := Aside0.mk h0
  clear hS hB hskip hcall h0 hn hc0
  go_enter Try.func48, Try.ntmps48
  go_wp2
  go_loopw [14] (fun i wr => ∃ k : Nat, k ≤ s.l.length ∧ i = .int .i64 k ∧ Aside0 (I k wr ∧ firstN p k = none)) (fun i _ => s.l.length - (intOf i).toNat)
  case atStart => exact ⟨0, by omega, rfl, ⟨HI.out, rfl⟩⟩
  case round =>
    clear HI hlt hc
    obtain ⟨k, hk, rfl, HI⟩ := hrel
    rcases Nat.lt_or_ge k s.l.length with hlt | hge
    · have p0 : (0 : Int) ≤ (k : Int) := by omega
      have q0 : (k : Int) < (s.l.length : Int) := by omega
      obtain ⟨e, he⟩ : ∃ e, s.l[k]? = some e := ⟨_, List.getElem?_eq_getElem hlt⟩
      obtain ⟨g, cp, hv, hcp, hgl, hcell⟩ := (HS.out k wr HI.out.1).rl.at_ (fun _ => rfl) he
      injection hv with hv1 hv2 hv3
      subst hv1
      have HE := Aside0.mk he
      have hnn : wrap64 ((k : Int) + 1) = ((k + 1 : Nat) : Int) := by have := HN.out; unfold wrap64; omega
      have c0 := hcell 0 (by decide)
      have c1 := hcell 1 (by decide)
      have c2 := hcell 2 (by decide)
      have c3 := hcell 3 (by decide)
      have c4 := hcell 4 (by decide)
      have c5 := hcell 5 (by decide)
      have c6 := hcell 6 (by decide)
      have c7 := hcell 7 (by decide)
      have c8 := hcell 8 (by decide)
      have c9 := hcell 9 (by decide)
      have c10 := hcell 10 (by decide)
      have c11 := hcell 11 (by decide)
      rw [Nat.add_zero] at c0
      replace q0 := eq_true q0
      replace p0 := eq_true p0
      clear hcell he hv2 hv3
      by_cases hkd : e.k = kind
      · have HCC : Aside0 (∀ W, I k W → Calls Try.prog 49 (#[.int .i64 (k : Int), .agg (evA e)] ++ cap) W fun r W' => r = .returned (.bool (p k)) ∧ I (k + 1) W') := ⟨fun W hW => HC.out k e W HE.out hkd hW⟩
        have hkd' : (e.k == kind) = true := beq_iff_eq.2 hkd
        have HB1 : Aside0 (I k (wr.alloc (.cells (evA e) 54))) := ⟨HB.out k _ _ HI.out.1 (below_alloc (Below.refl _ _) _)⟩
        clear hkd
        cases hp : p k with
        | true =>
          rw [hp] at HCC
          go_wp2_with (go_at_call 49; (with_reducible refine (HCC.out _ HB1.out).mono ?_); rintro r w2 ⟨rfl, hI2⟩; have HI2 := Aside0.mk hI2; clear hI2)
          go_ret
          exact ⟨by rw [firstN_mk hlt hp (firstN_none HI.out.2)]; rfl, _, HI2.out⟩
        | false =>
          rw [hp] at HCC
          go_wp2_with (go_at_call 49; (with_reducible refine (HCC.out _ HB1.out).mono ?_); rintro r w2 ⟨rfl, hI2⟩; have HI2 := Aside0.mk hI2; clear hI2)
          go_roundw
          case rel => exact ⟨k + 1, by omega, by first | rw [hnn] | simp, ⟨HI2.out, by rw [firstN_succ_none HI.out.2, hp]; rfl⟩⟩
          case measure => first | (rw [hnn]; simp [intOf]; omega) | (simp [intOf]; omega)
      · have hkd' : (e.k == kind) = false := beq_eq_false_iff_ne.2 hkd
        have HB1 := Aside0.mk (HK.out k e wr HE.out hkd HI.out.1)
        clear hkd
        go_wp2
        go_roundw
        case rel => exact ⟨k + 1, by omega, by first | rw [hnn] | simp, ⟨HB.out (k + 1) _ _ HB1.out.1 (below_alloc (Below.refl _ _) _), by rw [firstN_succ_none HI.out.2, HB1.out.2]; rfl⟩⟩
        case measure => first | (rw [hnn]; simp [intOf]; omega) | (simp [intOf]; omega)
    · have q0 : ((k : Int) < (s.l.length : Int)) = False := eq_false (by omega)
      have hkl : k = s.l.length := by omega
      have HKL := Aside0.mk hkl
      clear hkl
      go_wp2
      go_ret
      exact ⟨by rw [← HKL.out, HI.out.2]; rfl, _, HI.out.1⟩
set_option maxHeartbeats 4000000 in
set_option maxRecDepth 100000 in
theorem first_early {B b n m1 m2 : Nat} {s : Story} {vl vv vc : Value} (cap : Array Value) (kind : Int) (p : Nat → Bool) (I : Nat → World → Prop) (hn : s.l.length ≤ 1000000)
    (hS : ∀ i W, I i W → StIs W B b n s vl vv vc m1 m2)
    (hB : ∀ i W W', I i W → Below W.heap.size W W' → I i W')
    (hskip : ∀ (i : Nat) e W, s.l[i]? = some e → e.k ≠ kind → I i W → I (i + 1) W ∧ p i = false)
    (hcall : ∀ (i : Nat) e W, s.l[i]? = some e → e.k = kind → I i W → Calls Try.prog 51 (#[.int .i64 (i : Int), .agg (evA e)] ++ cap) W fun r W' => r = .returned (.bool (p i)) ∧ I (i + 1) W') (w : World) (h0 : I 0 w) :
    Calls Try.prog 48 #[.pointer (some ⟨b, 0, none⟩), .int .i64 kind, .func (.func 51) #[] cap] w (FirstPost p s.l.length I) := by
  have hu97 := Try.underlying97
  have hu54 := Try.underlying54
  obtain ⟨A0, c0, rfl, hc0⟩ := (hS 0 w h0).rl.form
  have hlt := (hS 0 w h0).lt
  have hc := fun i => (hS 0 w h0).cell i
  have HS := Aside0.mk hS
  have HB := Aside0.mk hB
  have HK := Aside0.mk hskip
  have HC := Aside0.mk hcall
  have HN := Aside0.mk hn
  have HI := Aside0.mk h0
  clear hS hB hskip hcall h0 hn hc0
  go_enter Try.func48, Try.ntmps48
  go_wp2
  go_loopw [14] (fun i wr => ∃ k : Nat, k ≤ s.l.length ∧ i = .int .i64 k ∧ Aside0 (I k wr ∧ firstN p k = none)) (fun i _ => s.l.length - (intOf i).toNat)
  case atStart => exact ⟨0, by omega, rfl, ⟨HI.out, rfl⟩⟩
  case round =>
    clear HI hlt hc
    obtain ⟨k, hk, rfl, HI⟩ := hrel
    rcases Nat.lt_or_ge k s.l.length with hlt | hge
    · have p0 : (0 : Int) ≤ (k : Int) := by omega
      have q0 : (k : Int) < (s.l.length : Int) := by omega
      obtain ⟨e, he⟩ : ∃ e, s.l[k]? = some e := ⟨_, List.getElem?_eq_getElem hlt⟩
      obtain ⟨g, cp, hv, hcp, hgl, hcell⟩ := (HS.out k wr HI.out.1).rl.at_ (fun _ => rfl) he
      injection hv with hv1 hv2 hv3
      subst hv1
      have HE := Aside0.mk he
      have hnn : wrap64 ((k : Int) + 1) = ((k + 1 : Nat) : Int) := by have := HN.out; unfold wrap64; omega
      have c0 := hcell 0 (by decide)
      have c1 := hcell 1 (by decide)
      have c2 := hcell 2 (by decide)
      have c3 := hcell 3 (by decide)
      have c4 := hcell 4 (by decide)
      have c5 := hcell 5 (by decide)
      have c6 := hcell 6 (by decide)
      have c7 := hcell 7 (by decide)
      have c8 := hcell 8 (by decide)
      have c9 := hcell 9 (by decide)
      have c10 := hcell 10 (by decide)
      have c11 := hcell 11 (by decide)
      rw [Nat.add_zero] at c0
      replace q0 := eq_true q0
      replace p0 := eq_true p0
      clear hcell he hv2 hv3
      by_cases hkd : e.k = kind
      · have HCC : Aside0 (∀ W, I k W → Calls Try.prog 51 (#[.int .i64 (k : Int), .agg (evA e)] ++ cap) W fun r W' => r = .returned (.bool (p k)) ∧ I (k + 1) W') := ⟨fun W hW => HC.out k e W HE.out hkd hW⟩
        have hkd' : (e.k == kind) = true := beq_iff_eq.2 hkd
        have HB1 : Aside0 (I k (wr.alloc (.cells (evA e) 54))) := ⟨HB.out k _ _ HI.out.1 (below_alloc (Below.refl _ _) _)⟩
        clear hkd
        cases hp : p k with
        | true =>
          rw [hp] at HCC
          go_wp2_with (go_at_call 51; (with_reducible refine (HCC.out _ HB1.out).mono ?_); rintro r w2 ⟨rfl, hI2⟩; have HI2 := Aside0.mk hI2; clear hI2)
          go_ret
          exact ⟨by rw [firstN_mk hlt hp (firstN_none HI.out.2)]; rfl, _, HI2.out⟩
        | false =>
          rw [hp] at HCC
          go_wp2_with (go_at_call 51; (with_reducible refine (HCC.out _ HB1.out).mono ?_); rintro r w2 ⟨rfl, hI2⟩; have HI2 := Aside0.mk hI2; clear hI2)
          go_roundw
          case rel => exact ⟨k + 1, by omega, by first | rw [hnn] | simp, ⟨HI2.out, by rw [firstN_succ_none HI.out.2, hp]; rfl⟩⟩
          case measure => first | (rw [hnn]; simp [intOf]; omega) | (simp [intOf]; omega)
      · have hkd' : (e.k == kind) = false := beq_eq_false_iff_ne.2 hkd
        have HB1 := Aside0.mk (HK.out k e wr HE.out hkd HI.out.1)
        clear hkd
        go_wp2
        go_roundw
        case rel => exact ⟨k + 1, by omega, by first | rw [hnn] | simp, ⟨HB.out (k + 1) _ _ HB1.out.1 (below_alloc (Below.refl _ _) _), by rw [firstN_succ_none HI.out.2, HB1.out.2]; rfl⟩⟩
        case measure => first | (rw [hnn]; simp [intOf]; omega) | (simp [intOf]; omega)
    · have q0 : ((k : Int) < (s.l.length : Int)) = False := eq_false (by omega)
      have hkl : k = s.l.length := by omega
      have HKL := Aside0.mk hkl
      clear hkl
      go_wp2
      go_ret
      exact ⟨by rw [← HKL.out, HI.out.2]; rfl, _, HI.out.1⟩
set_option maxHeartbeats 4000000 in
set_option maxRecDepth 100000 in
theorem first_wrong {B b n m1 m2 : Nat} {s : Story} {vl vv vc : Value} (cap : Array Value) (kind : Int) (p : Nat → Bool) (I : Nat → World → Prop) (hn : s.l.length ≤ 1000000)
    (hS : ∀ i W, I i W → StIs W B b n s vl vv vc m1 m2)
    (hB : ∀ i W W', I i W → Below W.heap.size W W' → I i W')
    (hskip : ∀ (i : Nat) e W, s.l[i]? = some e → e.k ≠ kind → I i W → I (i + 1) W ∧ p i = false)
    (hcall : ∀ (i : Nat) e W, s.l[i]? = some e → e.k = kind → I i W → Calls Try.prog 53 (#[.int .i64 (i : Int), .agg (evA e)] ++ cap) W fun r W' => r = .returned (.bool (p i)) ∧ I (i + 1) W') (w : World) (h0 : I 0 w) :
    Calls Try.prog 48 #[.pointer (some ⟨b, 0, none⟩), .int .i64 kind, .func (.func 53) #[] cap] w (FirstPost p s.l.length I) := by
  have hu97 := Try.underlying97
  have hu54 := Try.underlying54
  obtain ⟨A0, c0, rfl, hc0⟩ := (hS 0 w h0).rl.form
  have hlt := (hS 0 w h0).lt
  have hc := fun i => (hS 0 w h0).cell i
  have HS := Aside0.mk hS
  have HB := Aside0.mk hB
  have HK := Aside0.mk hskip
  have HC := Aside0.mk hcall
  have HN := Aside0.mk hn
  have HI := Aside0.mk h0
  clear hS hB hskip hcall h0 hn hc0
  go_enter Try.func48, Try.ntmps48
  go_wp2
  go_loopw [14] (fun i wr => ∃ k : Nat, k ≤ s.l.length ∧ i = .int .i64 k ∧ Aside0 (I k wr ∧ firstN p k = none)) (fun i _ => s.l.length - (intOf i).toNat)
  case atStart => exact ⟨0, by omega, rfl, ⟨HI.out, rfl⟩⟩
  case round =>
    clear HI hlt hc
    obtain ⟨k, hk, rfl, HI⟩ := hrel
    rcases Nat.lt_or_ge k s.l.length with hlt | hge
    · have p0 : (0 : Int) ≤ (k : Int) := by omega
      have q0 : (k : Int) < (s.l.length : Int) := by omega
      obtain ⟨e, he⟩ : ∃ e, s.l[k]? = some e := ⟨_, List.getElem?_eq_getElem hlt⟩
      obtain ⟨g, cp, hv, hcp, hgl, hcell⟩ := (HS.out k wr HI.out.1).rl.at_ (fun _ => rfl) he
      injection hv with hv1 hv2 hv3
      subst hv1
      have HE := Aside0.mk he
      have hnn : wrap64 ((k : Int) + 1) = ((k + 1 : Nat) : Int) := by have := HN.out; unfold wrap64; omega
      have c0 := hcell 0 (by decide)
      have c1 := hcell 1 (by decide)
      have c2 := hcell 2 (by decide)
      have c3 := hcell 3 (by decide)
      have c4 := hcell 4 (by decide)
      have c5 := hcell 5 (by decide)
      have c6 := hcell 6 (by decide)
      have c7 := hcell 7 (by decide)
      have c8 := hcell 8 (by decide)
      have c9 := hcell 9 (by decide)
      have c10 := hcell 10 (by decide)
      have c11 := hcell 11 (by decide)
      rw [Nat.add_zero] at c0
      replace q0 := eq_true q0
      replace p0 := eq_true p0
      clear hcell he hv2 hv3
      by_cases hkd : e.k = kind
      · have HCC : Aside0 (∀ W, I k W → Calls Try.prog 53 (#[.int .i64 (k : Int), .agg (evA e)] ++ cap) W fun r W' => r = .returned (.bool (p k)) ∧ I (k + 1) W') := ⟨fun W hW => HC.out k e W HE.out hkd hW⟩
        have hkd' : (e.k == kind) = true := beq_iff_eq.2 hkd
        have HB1 : Aside0 (I k (wr.alloc (.cells (evA e) 54))) := ⟨HB.out k _ _ HI.out.1 (below_alloc (Below.refl _ _) _)⟩
        clear hkd
        cases hp : p k with
        | true =>
          rw [hp] at HCC
          go_wp2_with (go_at_call 53; (with_reducible refine (HCC.out _ HB1.out).mono ?_); rintro r w2 ⟨rfl, hI2⟩; have HI2 := Aside0.mk hI2; clear hI2)
          go_ret
          exact ⟨by rw [firstN_mk hlt hp (firstN_none HI.out.2)]; rfl, _, HI2.out⟩
        | false =>
          rw [hp] at HCC
          go_wp2_with (go_at_call 53; (with_reducible refine (HCC.out _ HB1.out).mono ?_); rintro r w2 ⟨rfl, hI2⟩; have HI2 := Aside0.mk hI2; clear hI2)
          go_roundw
          case rel => exact ⟨k + 1, by omega, by first | rw [hnn] | simp, ⟨HI2.out, by rw [firstN_succ_none HI.out.2, hp]; rfl⟩⟩
          case measure => first | (rw [hnn]; simp [intOf]; omega) | (simp [intOf]; omega)
      · have hkd' : (e.k == kind) = false := beq_eq_false_iff_ne.2 hkd
        have HB1 := Aside0.mk (HK.out k e wr HE.out hkd HI.out.1)
        clear hkd
        go_wp2
        go_roundw
        case rel => exact ⟨k + 1, by omega, by first | rw [hnn] | simp, ⟨HB.out (k + 1) _ _ HB1.out.1 (below_alloc (Below.refl _ _) _), by rw [firstN_succ_none HI.out.2, HB1.out.2]; rfl⟩⟩
        case measure => first | (rw [hnn]; simp [intOf]; omega) | (simp [intOf]; omega)
    · have q0 : ((k : Int) < (s.l.length : Int)) = False := eq_false (by omega)
      have hkl : k = s.l.length := by omega
      have HKL := Aside0.mk hkl
      clear hkl
      go_wp2
      go_ret
      exact ⟨by rw [← HKL.out, HI.out.2]; rfl, _, HI.out.1⟩
set_option maxHeartbeats 4000000 in
set_option maxRecDepth 100000 in
theorem first_returns {B b n m1 m2 : Nat} {s : Story} {vl vv vc : Value} (cap : Array Value) (kind : Int) (p : Nat → Bool) (I : Nat → World → Prop) (hn : s.l.length ≤ 1000000)
    (hS : ∀ i W, I i W → StIs W B b n s vl vv vc m1 m2)
    (hB : ∀ i W W', I i W → Below W.heap.size W W' → I i W')
    (hskip : ∀ (i : Nat) e W, s.l[i]? = some e → e.k ≠ kind → I i W → I (i + 1) W ∧ p i = false)
    (hcall : ∀ (i : Nat) e W, s.l[i]? = some e → e.k = kind → I i W → Calls Try.prog 86 (#[.int .i64 (i : Int), .agg (evA e)] ++ cap) W fun r W' => r = .returned (.bool (p i)) ∧ I (i + 1) W') (w : World) (h0 : I 0 w) :
    Calls Try.prog 48 #[.pointer (some ⟨b, 0, none⟩), .int .i64 kind, .func (.func 86) #[] cap] w (FirstPost p s.l.length I) := by
  have hu97 := Try.underlying97
  have hu54 := Try.underlying54
  obtain ⟨A0, c0, rfl, hc0⟩ := (hS 0 w h0).rl.form
  have hlt := (hS 0 w h0).lt
  have hc := fun i => (hS 0 w h0).cell i
  have HS := Aside0.mk hS
  have HB := Aside0.mk hB
  have HK := Aside0.mk hskip
  have HC := Aside0.mk hcall
  have HN := Aside0.mk hn
  have HI := Aside0.mk h0
  clear hS hB hskip hcall h0 hn hc0
  go_enter Try.func48, Try.ntmps48
  go_wp2
  go_loopw [14] (fun i wr => ∃ k : Nat, k ≤ s.l.length ∧ i = .int .i64 k ∧ Aside0 (I k wr ∧ firstN p k = none)) (fun i _ => s.l.length - (intOf i).toNat)
  case atStart => exact ⟨0, by omega, rfl, ⟨HI.out, rfl⟩⟩
  case round =>
    clear HI hlt hc
    obtain ⟨k, hk, rfl, HI⟩ := hrel
    rcases Nat.lt_or_ge k s.l.length with hlt | hge
    · have p0 : (0 : Int) ≤ (k : Int) := by omega
      have q0 : (k : Int) < (s.l.length : Int) := by omega
      obtain ⟨e, he⟩ : ∃ e, s.l[k]? = some e := ⟨_, List.getElem?_eq_getElem hlt⟩
      obtain ⟨g, cp, hv, hcp, hgl, hcell⟩ := (HS.out k wr HI.out.1).rl.at_ (fun _ => rfl) he
      injection hv with hv1 hv2 hv3
      subst hv1
      have HE := Aside0.mk he
      have hnn : wrap64 ((k : Int) + 1) = ((k + 1 : Nat) : Int) := by have := HN.out; unfold wrap64; omega
      have c0 := hcell 0 (by decide)
      have c1 := hcell 1 (by decide)
      have c2 := hcell 2 (by decide)
      have c3 := hcell 3 (by decide)
      have c4 := hcell 4 (by decide)
      have c5 := hcell 5 (by decide)
      have c6 := hcell 6 (by decide)
      have c7 := hcell 7 (by decide)
      have c8 := hcell 8 (by decide)
      have c9 := hcell 9 (by decide)
      have c10 := hcell 10 (by decide)
      have c11 := hcell 11 (by decide)
      rw [Nat.add_zero] at c0
      replace q0 := eq_true q0
      replace p0 := eq_true p0
      clear hcell he hv2 hv3
      by_cases hkd : e.k = kind
      · have HCC : Aside0 (∀ W, I k W → Calls Try.prog 86 (#[.int .i64 (k : Int), .agg (evA e)] ++ cap) W fun r W' => r = .returned (.bool (p k)) ∧ I (k + 1) W') := ⟨fun W hW => HC.out k e W HE.out hkd hW⟩
        have hkd' : (e.k == kind) = true := beq_iff_eq.2 hkd
        have HB1 : Aside0 (I k (wr.alloc (.cells (evA e) 54))) := ⟨HB.out k _ _ HI.out.1 (below_alloc (Below.refl _ _) _)⟩
        clear hkd
        cases hp : p k with
        | true =>
          rw [hp] at HCC
          go_wp2_with (go_at_call 86; (with_reducible refine (HCC.out _ HB1.out).mono ?_); rintro r w2 ⟨rfl, hI2⟩; have HI2 := Aside0.mk hI2; clear hI2)
          go_ret
          exact ⟨by rw [firstN_mk hlt hp (firstN_none HI.out.2)]; rfl, _, HI2.out⟩
        | false =>
          rw [hp] at HCC
          go_wp2_with (go_at_call 86; (with_reducible refine (HCC.out _ HB1.out).mono ?_); rintro r w2 ⟨rfl, hI2⟩; have HI2 := Aside0.mk hI2; clear hI2)
          go_roundw
          case rel => exact ⟨k + 1, by omega, by first | rw [hnn] | simp, ⟨HI2.out, by rw [firstN_succ_none HI.out.2, hp]; rfl⟩⟩
          case measure => first | (rw [hnn]; simp [intOf]; omega) | (simp [intOf]; omega)
      · have hkd' : (e.k == kind) = false := beq_eq_false_iff_ne.2 hkd
        have HB1 := Aside0.mk (HK.out k e wr HE.out hkd HI.out.1)
        clear hkd
        go_wp2
        go_roundw
        case rel => exact ⟨k + 1, by omega, by first | rw [hnn] | simp, ⟨HB.out (k + 1) _ _ HB1.out.1 (below_alloc (Below.refl _ _) _), by rw [firstN_succ_none HI.out.2, HB1.out.2]; rfl⟩⟩
        case measure => first | (rw [hnn]; simp [intOf]; omega) | (simp [intOf]; omega)
    · have q0 : ((k : Int) < (s.l.length : Int)) = False := eq_false (by omega)
      have hkl : k = s.l.length := by omega
      have HKL := Aside0.mk hkl
      clear hkl
      go_wp2
      go_ret
      exact ⟨by rw [← HKL.out, HI.out.2]; rfl, _, HI.out.1⟩
end Go.Proofs.Ythniclbmpeklmaa.Au
